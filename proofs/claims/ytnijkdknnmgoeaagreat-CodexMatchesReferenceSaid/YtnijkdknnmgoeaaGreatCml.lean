/- Part of a proof: see the last text. -/
import Derived.Test.YtnijkdknnmgoeaaGreatCmk
set_option linter.unusedVariables false
set_option linter.unusedSimpArgs false
set_option linter.defProp false
noncomputable section
namespace Go.Proofs.YtnijkdknnmgoeaaGreat
open AI Go
namespace Mo
set_option maxRecDepth 100000
set_option maxHeartbeats 4000000
def OG(Eo:Ex->Ex->Option Bool)(CD:(List Ex)->(List Ex)->Option Bool)(a:Ex)(b:Ex):Option Bool:=cond (Ba a.op b.op) (cond (Ba a.n b.n) (cond (By a.unit.data.toList b.unit.data.toList) (cond (Ba a.BX.den b.BX.den) ((Hc a.BX.ps b.BX.ps).bind λy1=>cond y1 ((CD a.kids b.kids).bind λy2=>some y2) (some false)) (some false)) (some false)) (some false)) (some false)
abbrev LJ(a:Ex)(b:Ex)(yR:Bool):Prop:=Pure P G 61 [.agg (Fp a),.agg (Fp b)] (.zb yR)
abbrev Jx(s1:(List Ex))(s2:(List Ex))(yR:Bool):Prop:=Pure P G 101 [.sl .lost s1.length (BD s1),.sl .lost s2.length (BD s2),.fn (.func 61) [] []] (.zb yR)
def Y2(Eo:Ex->Ex->Option Bool)(CD:(List Ex)->(List Ex)->Option Bool)(Uv:∀{a:Ex} {b:Ex} {yR:Bool},Eo a b=some yR->(LJ a b yR))(PG:∀{s1:(List Ex)} {s2:(List Ex)} {yR:Bool},CD s1 s2=some yR->(Jx s1 s2 yR)){a:Ex}{b:Ex}{yR:Bool}:OG Eo CD a b=some yR->(LJ a b yR):=by
 refine pM Tryz.func61 (Aq (AO.Cv a) (Aq (AO.Cv b) rfl)) rfl ?_;unfold OG;refine Aa (λAx=>?_) λAx=>?_;refine Aa (λAL=>?_) λAL=>?_;refine Aa (λBg=>?_) λBg=>?_;refine Aa (λBu=>?_) λBu=>?_;refine Ah λy1 CK=>?_;refine Aa ?_ ?_;rintro rfl;refine Ah λy2 E7=>?_;rintro⟨⟩;exact rT [pn Ax,pn AL,pn Bg,pn Bu,Ag (Qt CK),Ag (PG E7)];rintro rfl;rintro⟨⟩;exact rT [pn Ax,pn AL,pn Bg,pn Bu,Ag (Qt CK)];rintro⟨⟩;exact rT [pn Ax,pn AL,pn Bg,pn Bu];rintro⟨⟩;exact rT [pn Ax,pn AL,pn Bg];rintro⟨⟩;exact rT [pn Ax,pn AL];rintro⟨⟩;exact rT [pn Ax]
def IB(Eo:Ex->Ex->Option Bool)(CD:(List Ex)->(List Ex)->Option Bool)(s2:(List Ex))(i0:Nat)(e0:Ex) :Option (Lp Unit Unit Bool):=(s2[i0]?).bind λx1=>(Eo e0 x1).bind λy2=>cond y2 (some (.nx ())) (some (.rt false))
def JC(Eo:Ex->Ex->Option Bool)(CD:(List Ex)->(List Ex)->Option Bool)(s1:(List Ex))(s2:(List Ex)):Option Bool:=cond (Ba ((s1.length:Nat):Int) ((s2.length:Nat):Int)) ((ED s1.length (Au (λi y x=>IB Eo CD s2 i y ) (λx=>()) (s1.drop 0) 0 ())).bind (Eu (λ(_:Unit)=>some true) (λv=>some v))) (some false)
def T1(Eo:Ex->Ex->Option Bool)(CD:(List Ex)->(List Ex)->Option Bool)(Uv:∀{a:Ex} {b:Ex} {yR:Bool},Eo a b=some yR->(LJ a b yR))(PG:∀{s1:(List Ex)} {s2:(List Ex)} {yR:Bool},CD s1 s2=some yR->(Jx s1 s2 yR)){s1:(List Ex)}{s2:(List Ex)}{yR:Bool}:JC Eo CD s1 s2=some yR->(Jx s1 s2 yR):=by
 refine pM Tryz.func101 (Aq (AO.Bk s1) (Aq (AO.Bk s2) (Aq (oL rfl rfl) rfl))) rfl ?_;unfold JC;refine Aa (λAx=>?_) λAx=>?_;refine CF (RA Tryz.f101 .zb) 32 [6,14,18,29,30] (λi0 (_:Unit)=>[(1,.sl .lost s2.length (BD s2)),(2,.fn (.func 61) [] []),(15,.sl .lost s1.length (BD s1)),(16,.zi ((s1.length:Nat):Int)),(17,.zi ((i0:Nat):Int))]) (λ_=>⟨[],0,[],0⟩) [1,2,15,16,17] [] 0 (sb (Al Tryz.f101) 116) [.code (sb (Al Tryz.f101) 15)] [pn Ax] ?_ ?_;rintro i0 e0 ⟨⟩ j0 r B6 Ca BQ k;show IB Eo CD s2 i0 e0 =some r->_;unfold IB;refine Ah λx1 Kn=>?_;refine Ah λy2 E7=>?_;let o1:LP:=[pb (C2 Ca),Bq (Ep .lost B6),Bq (Ep .lost Kn),Ag (Uv E7)];refine Aa ?_ ?_;rintro rfl;rintro⟨⟩;exact gN [fq (AO.Bk s2),fq (AO.Bk s1)] [] (o1++[pi BQ]) k;rintro rfl;rintro⟨⟩;exact gA o1 (.Dv k) .sc;rintro⟨⟩ Zv;rintro⟨⟩;exact C7 [] .body .sc;rintro⟨⟩;exact rT [pn Ax]
mutual
def EZ:Nat->Ex->Ex->Option Bool
 | 0,_,_=>none
 | qn+1,a,b=>OG (EZ qn) (Dw qn) a b
def Dw:Nat->(List Ex)->(List Ex)->Option Bool
 | 0,_,_=>none
 | qn+1,s1,s2=>JC (EZ qn) (Dw qn) s1 s2
end
def aQ:∀qn:Nat,(∀{a:Ex} {b:Ex} {yR:Bool},EZ qn a b=some yR->(LJ a b yR))/\(∀{s1:(List Ex)} {s2:(List Ex)} {yR:Bool},Dw qn s1 s2=some yR->(Jx s1 s2 yR)):=by
 intro qn
 induction qn with
 | zero=>exact⟨(λh=>by simp only[EZ] at h;cases h),(λh=>by simp only[Dw] at h;cases h)⟩
 | succ qn ih=>exact⟨(λh=>Y2 (EZ qn) (Dw qn) ih.1 ih.2 (by rw[EZ] at h;exact h)),(λh=>T1 (EZ qn) (Dw qn) ih.1 ih.2 (by rw[Dw] at h;exact h))⟩
def Sj(a:Ex)(b:Ex):Option Bool:=cA (λqn=>EZ qn a b)
def cW{a:Ex}{b:Ex}{yR:Bool}(h:Sj a b=some yR):(LJ a b yR):=by
 obtain⟨qn,h⟩:=Th h;exact(aQ qn).1 h
def Ju(OB:Ex)(a2:Ex):Option Bool:=(Sj OB a2).bind λy1=>some y1
abbrev Qe(OB:Ex)(a2:Ex)(yR:Bool):Prop:=Sound P G (.call 99 [.agg (Fp OB),.ptr 0 0,.ptr 1 0] ⟨[(1,.cells (Fp a2)),(0,.cells [.fn (.func 61) [] []])],2,[],0⟩ (.ret (.zb yR)) ⟨[(1,.cells (Fp a2)),(0,.cells [.fn (.func 61) [] []])],2,[],0⟩)
def WR{OB:Ex}{a2:Ex}{yR:Bool}(hS:(Qe OB a2 yR))(u0 u1:Nat)(RV:([u0,u1]:List Nat).Nodup:=by decide)(TE:([]:List Nat).Nodup:=by decide):Cd.ok P G (.H4 99 [.agg (Fp OB),.ptr u0 0,.ptr u1 0] (.ret (.zb yR)) [(u0,.cells [.fn (.func 61) [] []]),(u1,.cells (Fp a2))] [] [(u0,.cells [.fn (.func 61) [] []]),(u1,.cells (Fp a2))] []) :=
 Io (M:=[.cells [.fn (.func 61) [] []],.cells (Fp a2)]) (M2:=[.cells [.fn (.func 61) [] []],.cells (Fp a2)]) (T:=[]) (T2:=[]) (k:=2) (j:=0) Hd.CY _ _ _ _ hS rfl rfl rfl rfl rfl RV TE rfl rfl (.cons (.cells (.pl (Aq (oL rfl rfl) rfl))) (.cons (.cells (.pl (AO.pl a2))) .nil)) (.cons (.cells (.pl (Aq (oL rfl rfl) rfl))) (.cons (.cells (.pl (AO.pl a2))) .nil)) (.cons (.pl (AO.Cv OB)) (.cons (.ptr (by decide)) (.cons (.ptr (by decide)) .nil))) (.pl rfl) (by
   intro e he;simp only[List.mem_cons,List.not_mem_nil,or_false] at he;rcases he with rfl | rfl
   exact(.arg (.there (.here .ptr)));exact(.arg (.there (.there (.here .ptr))))
   )
def TX{OB:Ex}{a2:Ex}{yR:Bool}:Ju  OB a2=some yR->(Qe OB a2 yR):=by
 refine sM Tryz.func99 ?_;unfold Ju;refine Ah λy1 CK=>?_;rintro⟨⟩;exact gR [] [bp (AO.pl a2),bFn] [Ag (cW CK)]
def GV(f:Ex)(i0:Nat)(e0:Ex) :Option (Lp Unit Unit Int):=(Ju e0 f).bind λy1=>cond y1 (some (.rt ((i0:Nat):Int))) (some (.nx ()))
def FG(s:(List Ex))(f:Ex):Option Int:=(ED s.length (Au (λi y x=>GV  f i y ) (λx=>()) (s.drop 0) 0 ())).bind (Eu (λ(_:Unit)=>some (-1)) (λv=>some v))
abbrev Oa(s:(List Ex))(f:Ex)(yR:Int):Prop:=Sound P G (.call 147 [.sl .lost s.length (BD s),.fn (.func 99) [] [.ptr 0 0,.ptr 1 0]] ⟨[(1,.cells (Fp f)),(0,.cells [.fn (.func 61) [] []])],2,[],0⟩ (.ret (.zi yR)) ⟨[(1,.cells (Fp f)),(0,.cells [.fn (.func 61) [] []])],2,[],0⟩)
def Ud{s:(List Ex)}{f:Ex}{yR:Int}(hS:(Oa s f yR))(u0 u1:Nat)(RV:([u0,u1]:List Nat).Nodup:=by decide)(TE:([]:List Nat).Nodup:=by decide):Cd.ok P G (.H4 147 [.sl .lost s.length (BD s),.fn (.func 99) [] [.ptr u0 0,.ptr u1 0]] (.ret (.zi yR)) [(u0,.cells [.fn (.func 61) [] []]),(u1,.cells (Fp f))] [] [(u0,.cells [.fn (.func 61) [] []]),(u1,.cells (Fp f))] []) :=
 Io (M:=[.cells [.fn (.func 61) [] []],.cells (Fp f)]) (M2:=[.cells [.fn (.func 61) [] []],.cells (Fp f)]) (T:=[]) (T2:=[]) (k:=2) (j:=0) Hd.CY _ _ _ _ hS rfl rfl rfl rfl rfl RV TE rfl rfl (.cons (.cells (.pl (Aq (oL rfl rfl) rfl))) (.cons (.cells (.pl (AO.pl f))) .nil)) (.cons (.cells (.pl (Aq (oL rfl rfl) rfl))) (.cons (.cells (.pl (AO.pl f))) .nil)) (.cons (.pl (AO.Bk s)) (.cons (.fn (.pl rfl) (.cons (.ptr (by decide)) (.cons (.ptr (by decide)) .nil))) .nil)) (.pl rfl) (by
   intro e he;simp only[List.mem_cons,List.not_mem_nil,or_false] at he;rcases he with rfl | rfl
   exact(.arg (.there (.here (.fn2 (.here .ptr)))));exact(.arg (.there (.here (.fn2 (.there (.here .ptr))))))
   )
def R6{s:(List Ex)}{f:Ex}{yR:Int}:FG  s f=some yR->(Oa s f yR):=by
 refine sM Tryz.func147 ?_;unfold FG;refine CF (λQ v=>Jm P G Tryz.f147 2 ⟨[(1,.cells (Fp f)),(0,.cells [.fn (.func 61) [] []])],2,[],0⟩ Q (.zi v) ⟨[(1,.cells (Fp f)),(0,.cells [.fn (.func 61) [] []])],2,[],0⟩) 19 [9,16] (λi0 (_:Unit)=>[(0,.sl .lost s.length (BD s)),(1,.fn (.func 99) [] [.ptr 0 0,.ptr 1 0]),(7,.zi ((s.length:Nat):Int)),(8,.zi ((i0:Nat):Int))]) (λ_=>⟨[(1,.cells (Fp f)),(0,.cells [.fn (.func 61) [] []])],2,[],0⟩) [0,1,7,8] [] 0 (sb (Al Tryz.f147) 52) [.code (sb (Al Tryz.f147) 7)] [] ?_ ?_;rintro i0 e0 ⟨⟩ j0 r B6 Ca BQ k;show GV  f i0 e0 =some r->_;unfold GV;refine Ah λy1 CK=>?_;let o1:LP:=[pb (C2 Ca),Bq (Ep .lost B6),AG (WR (TX CK) 0 1)];refine Aa ?_ ?_;rintro rfl;rintro⟨⟩;exact gK [] [bp (AO.pl f),bFn] o1 (.Dv k);rintro rfl;rintro⟨⟩;exact gM (o1++[pi BQ]) k;rintro⟨⟩ OV;rintro⟨⟩;exact Om [] [bp (AO.pl f),bFn] []
def IE(s:(List Ex))(f:Ex):Option Bool:=(FG s f).bind λy1=>(some (Iy 0 y1)).bind λq2=>some q2
abbrev PA(s:(List Ex))(f:Ex)(yR:Bool):Prop:=Sound P G (.call 98 [.sl .lost s.length (BD s),.fn (.func 99) [] [.ptr 0 0,.ptr 1 0]] ⟨[(1,.cells (Fp f)),(0,.cells [.fn (.func 61) [] []])],2,[],0⟩ (.ret (.zb yR)) ⟨[(1,.cells (Fp f)),(0,.cells [.fn (.func 61) [] []])],2,[],0⟩)
def VL{s:(List Ex)}{f:Ex}{yR:Bool}(hS:(PA s f yR))(u0 u1:Nat)(RV:([u0,u1]:List Nat).Nodup:=by decide)(TE:([]:List Nat).Nodup:=by decide):Cd.ok P G (.H4 98 [.sl .lost s.length (BD s),.fn (.func 99) [] [.ptr u0 0,.ptr u1 0]] (.ret (.zb yR)) [(u0,.cells [.fn (.func 61) [] []]),(u1,.cells (Fp f))] [] [(u0,.cells [.fn (.func 61) [] []]),(u1,.cells (Fp f))] []) :=
 Io (M:=[.cells [.fn (.func 61) [] []],.cells (Fp f)]) (M2:=[.cells [.fn (.func 61) [] []],.cells (Fp f)]) (T:=[]) (T2:=[]) (k:=2) (j:=0) Hd.CY _ _ _ _ hS rfl rfl rfl rfl rfl RV TE rfl rfl (.cons (.cells (.pl (Aq (oL rfl rfl) rfl))) (.cons (.cells (.pl (AO.pl f))) .nil)) (.cons (.cells (.pl (Aq (oL rfl rfl) rfl))) (.cons (.cells (.pl (AO.pl f))) .nil)) (.cons (.pl (AO.Bk s)) (.cons (.fn (.pl rfl) (.cons (.ptr (by decide)) (.cons (.ptr (by decide)) .nil))) .nil)) (.pl rfl) (by
   intro e he;simp only[List.mem_cons,List.not_mem_nil,or_false] at he;rcases he with rfl | rfl
   exact(.arg (.there (.here (.fn2 (.here .ptr)))));exact(.arg (.there (.here (.fn2 (.there (.here .ptr))))))
   )
def Tc{s:(List Ex)}{f:Ex}{yR:Bool}:IE  s f=some yR->(PA s f yR):=by
 refine sM Tryz.func98 ?_;unfold IE;refine Ah λy1 CK=>?_;refine Ah λq2 vE=>?_;rintro⟨⟩;exact gR [] [bp (AO.pl f),bFn] [AG (Ud (R6 CK) 0 1),Dx (ary vE (.tmp 7) (.const (.int .i64 0)))]
def J4(list:(List Ex))(i0:Nat)(e0:Ex) :Option (Lp Unit Unit Bool):=(IE list e0).bind λy1=>cond y1 (some (.nx ())) (some (.rt false))
def Hr(list:(List Ex))(parts:(List Ex)):Option Bool:=(ED parts.length (Au (λi y x=>J4  list i y ) (λx=>()) (parts.drop 0) 0 ())).bind (Eu (λ(_:Unit)=>some true) (λv=>some v))
def PB{list:(List Ex)}{parts:(List Ex)}{yR:Bool}:Hr  list parts=some yR->Pure P G 60 [.sl .lost list.length (BD list),.sl .lost parts.length (BD parts),.fn (.func 61) [] []] (.zb yR):=by
 refine pM Tryz.func60 (Aq (AO.Bk list) (Aq (AO.Bk parts) (Aq (oL rfl rfl) rfl))) rfl ?_;unfold Hr;refine CF (RA Tryz.f60 .zb) 20 [6,12,17,18] (λi0 (_:Unit)=>[(0,.sl .lost list.length (BD list)),(5,.ptr 0 0),(9,.sl .lost parts.length (BD parts)),(10,.zi ((parts.length:Nat):Int)),(11,.zi ((i0:Nat):Int))]) (λ_=>⟨[(0,.cells [.fn (.func 61) [] []])],1,[],0⟩) [0,5,9,10,11] [] 0 (sb (Al Tryz.f60) 52) [.code (sb (Al Tryz.f60) 7)] [] ?_ ?_;rintro i0 e0 ⟨⟩ j0 r B6 Ca BQ k;show J4  list i0 e0 =some r->_;unfold J4;refine Ah λy1 CK=>?_;let o1:LP:=[pb (C2 Ca),Bq (Ep .lost B6),AG (VL (Tc CK) 0 1)];refine Aa ?_ ?_;rintro rfl;rintro⟨⟩;exact gN [fq (AO.Bk list),fq (AO.Bk parts)] [bFn] (o1++[pi BQ]) k;rintro rfl;rintro⟨⟩;exact gA o1 (.Dv k) .sc;rintro⟨⟩ OV;rintro⟨⟩;exact C7 [] .body .sc
def En(c:Co)(a:Int)(b:Int):Option Bool:=cond (C3 a 0) (some false) (cond (C3 b 0) (some false) (cond (Iy ((c.Ap.length:Nat):Int) a) (some false) (cond (Iy ((c.Ap.length:Nat):Int) b) (some false) ((Cn c.Ap a).bind λx1=>(Cn c.Ap b).bind λx2=>cond (Ba x1.line x2.line) (cond (Ba x1.number x2.number) (some false) (cond (Ba x1.R9 x2.R9) ((Hr x1.wh x2.wh).bind λy3=>(Hr x2.wh x1.wh).bind λy4=>cond y3 (cond y4 (cond (C3 x2.known x1.known) (some true) (some false)) (some true)) (cond y4 (some false) (cond (C3 x2.known x1.known) (some true) (some false)))) (cond (C3 x2.R9 x1.R9) (some true) (some false)))) (some false)))))
def I1{c:Co}{a:Int}{b:Int}{yR:Bool}:En  c a b=some yR->Pure P G 24 [.agg (Ko c),.zi a,.zi b] (.zb yR):=by
 refine pM Tryz.func24 (Aq (Cj.Cv c) (Aq rfl (Aq rfl rfl))) rfl ?_;unfold En;refine Aa (λAx=>?_) λAx=>?_;rintro⟨⟩;exact rT [pb Ax];let o1:LP:=[pb Ax];refine Aa (λAL=>?_) λAL=>?_;rintro⟨⟩;exact rT (o1++[pb AL]);let o2:LP:=o1++[pb AL];refine Aa (λBg=>?_) λBg=>?_;rintro⟨⟩;exact rT (o2++[pb Bg]);let o3:LP:=o2++[pb Bg];refine Aa (λBu=>?_) λBu=>?_;rintro⟨⟩;exact rT (o3++[pb Bu]);refine Ah λx1 Kn=>?_;refine Ah λx2 Pp=>?_;let o4:LP:=o3++[pb Bu,Bq (PI .lost Kn),Bq (PI .lost Pp)];refine Aa (λBA=>?_) λBA=>?_;refine Aa (λBC=>?_) λBC=>?_;rintro⟨⟩;exact rT (o4++[pn BA,pb BC]);let o5:LP:=o4++[pn BA,pb BC];refine Aa (λB7=>?_) λB7=>?_;refine Ah λy3 Jb=>?_;refine Ah λy4 OD=>?_;let o6:LP:=o5++[pn B7,Ag (PB Jb),Ag (PB OD),pk];refine Aa ?_ ?_;rintro rfl;refine Aa ?_ ?_;rintro rfl;refine Aa (λCX=>?_) λCX=>?_;rintro⟨⟩;exact rT (o6++[pb CX]);rintro⟨⟩;exact rT (o6++[pb CX]);rintro rfl;rintro⟨⟩;exact rT o6;rintro rfl;refine Aa ?_ ?_;rintro rfl;rintro⟨⟩;exact rT o6;rintro rfl;refine Aa (λDR=>?_) λDR=>?_;rintro⟨⟩;exact rT (o6++[pb DR]);rintro⟨⟩;exact rT (o6++[pb DR]);refine Aa (λBM=>?_) λBM=>?_;rintro⟨⟩;exact rT (o5++[pn B7,pb BM]);rintro⟨⟩;exact rT (o5++[pn B7,pb BM]);rintro⟨⟩;exact rT (o4++[pn BA])
abbrev Ia(e:Ex)(numbers:(Mm Int Bool))(EO:(Mm Int Bool)):Prop:=Sound P G (.call 90 [.agg (Fp e),.mp 0] ⟨[(0,(LD numbers))],1,[],0⟩ (.ret (.Bj [])) ⟨[(0,(LD EO))],1,[],0⟩)
def J7{e:Ex}{numbers:(Mm Int Bool)}{EO:(Mm Int Bool)}(hS:(Ia e numbers EO))(u0:Nat)(RV:([u0]:List Nat).Nodup:=by decide)(TE:([]:List Nat).Nodup:=by decide):Cd.ok P G (.H4 90 [.agg (Fp e),.mp u0] (.ret (.Bj [])) [(u0,(LD numbers))] [] [(u0,(LD EO))] []) :=
 Io (M:=[(LD numbers)]) (M2:=[(LD EO)]) (T:=[]) (T2:=[]) (k:=1) (j:=0) Hd.CY _ _ _ _ hS rfl rfl rfl rfl rfl RV TE rfl rfl (.cons (FT (λ_=>rfl)) .nil) (.cons (FT (λ_=>rfl)) .nil) (.cons (.pl (AO.Cv e)) (.cons (.mp (by decide)) .nil)) (.pl rfl) (λe he=>by simp only[List.mem_singleton] at he;subst he;exact(.arg (.there (.here .mp))))
def CB(DK:Ex->(Mm Int Bool)->Option (Unit×(Mm Int Bool)))(i0:Nat)(e0:Ex)(QF:(Mm Int Bool)):Option (Lp (Mm Int Bool) (Mm Int Bool) (Unit×(Mm Int Bool))):=(DK e0 QF).bind λ(O5,DN)=>some (.nx DN)
def Gr(DK:Ex->(Mm Int Bool)->Option (Unit×(Mm Int Bool)))(e:Ex)(numbers:(Mm Int Bool)):Option (Unit×(Mm Int Bool)):=cond (Ba e.op 3) ((ED e.kids.length (Au (λi y x=>CB DK  i y x) (λx=>x) (e.kids.drop 0) 0 (numbers.set e.n true))).bind (Eu (λ(vR:(Mm Int Bool))=>some ((),vR)) (λv=>some v))) ((ED e.kids.length (Au (λi y x=>CB DK  i y x) (λx=>x) (e.kids.drop 0) 0 numbers)).bind (Eu (λ(fC:(Mm Int Bool))=>some ((),fC)) (λv=>some v)))
def UZ(DK:Ex->(Mm Int Bool)->Option (Unit×(Mm Int Bool)))(QE:∀{e:Ex} {numbers:(Mm Int Bool)} {yR:Unit} {EO:(Mm Int Bool)},DK e numbers=some (yR,EO)->(Ia e numbers EO)){e:Ex}{numbers:(Mm Int Bool)}{yR:Unit}{EO:(Mm Int Bool)}:Gr DK e numbers=some (yR,EO)->(Ia e numbers EO):=by
 refine sM Tryz.func90 ?_;unfold Gr;refine Aa (λAx=>?_) λAx=>?_;refine CF (λQ v=>Jm P G Tryz.f90 1 ⟨[(0,(LD numbers))],1,[],0⟩ Q (.Bj []) ⟨[(0,(LD v.2))],1,[],0⟩) 23 [8,16] (λi0 (QF:(Mm Int Bool))=>[(1,.mp 0),(13,.sl .lost e.kids.length (BD e.kids)),(14,.zi ((e.kids.length:Nat):Int)),(15,.zi ((i0:Nat):Int))]) (λQF=>⟨[(1,.cells (Fp e)),(0,(LD QF))],2,[],0⟩) [1,13,14,15] [] 0 (sb (Al Tryz.f90) 60) [] [pb Ax,iU (alT numbers e.n true)] ?_ ?_;rintro i0 e0 QF j0 r B6 Ca BQ k;show CB DK  i0 e0 QF=some r->_;unfold CB;refine Cb λO5 DN CK=>?_;rintro⟨⟩;exact gN [fq (AO.Bk e.kids)] [bp (AO.pl e),V9 DN] [pb (C2 Ca),Bq (Ep .lost B6),AG (J7 (QE CK) 0),pi BQ] k;rintro vR OV;refine IK ?_;rintro rfl rfl;exact gDB [⟨.Bj [],.Bj [],(.plain rfl)⟩] [V9 vR] [];refine CF (λQ v=>Jm P G Tryz.f90 1 ⟨[(0,(LD numbers))],1,[],0⟩ Q (.Bj []) ⟨[(0,(LD v.2))],1,[],0⟩) 23 [8,16] (λi0 (QF:(Mm Int Bool))=>[(1,.mp 0),(13,.sl .lost e.kids.length (BD e.kids)),(14,.zi ((e.kids.length:Nat):Int)),(15,.zi ((i0:Nat):Int))]) (λQF=>⟨[(1,.cells (Fp e)),(0,(LD QF))],2,[],0⟩) [1,13,14,15] [] 0 (sb (Al Tryz.f90) 60) [] [pb Ax] ?_ ?_;rintro i0 e0 QF j0 r B6 Ca BQ k;show CB DK  i0 e0 QF=some r->_;unfold CB;refine Cb λO5 DN CK=>?_;rintro⟨⟩;exact gN [fq (AO.Bk e.kids)] [bp (AO.pl e),V9 DN] [pb (C2 Ca),Bq (Ep .lost B6),AG (J7 (QE CK) 0),pi BQ] k;rintro fC Zv;refine IK ?_;rintro rfl rfl;exact gDB [⟨.Bj [],.Bj [],(.plain rfl)⟩] [V9 fC] []
def BN:Nat->Ex->(Mm Int Bool)->Option (Unit×(Mm Int Bool))
 | 0,_,_=>none
 | qn+1,e,numbers=>Gr (BN qn) e numbers
def VF:∀qn:Nat,∀{e:Ex} {numbers:(Mm Int Bool)} {yR:Unit} {EO:(Mm Int Bool)},BN qn e numbers=some (yR,EO)->(Ia e numbers EO):=by
 intro qn
 induction qn with
 | zero=>exact(λh=>by simp only[BN] at h;cases h)
 | succ qn ih=>exact(λh=>UZ (BN qn) ih (by rw[BN] at h;exact h))
def J6(e:Ex)(numbers:(Mm Int Bool)):Option (Unit×(Mm Int Bool)):=cA (λqn=>BN qn e numbers)
def QS{e:Ex}{numbers:(Mm Int Bool)}{yR:Unit}{EO:(Mm Int Bool)}(h:J6 e numbers=some (yR,EO)):(Ia e numbers EO):=by
 obtain⟨qn,h⟩:=Th h;exact(VF qn) h
def N0(i0:Nat)(e0:Int)(Cc:(Mm Int Bool)):Option (Lp (Mm Int Bool) (Mm Int Bool) (List Int)):=some (.nx (Cc.set e0 true))
def NM(i1:Nat)(e1:Ex)(Cc:(Mm Int Bool)):Option (Lp (Mm Int Bool) (Mm Int Bool) (List Int)):=(J6 e1 Cc).bind λ(OU,Mn)=>some (.nx Mn)
def MM(c:Co)(version:Int)(Ke:(Mm Int Bool))(i2:Nat)(e2:Ar)(CT:(List Int)):Option (Lp (List Int) (List Int) (List Int)):=cond ((Ke.get e2.number).getD false) (JB (CT.length+1) (some (.nx (CT++[((i2:Nat):Int)])))) ((En c ((i2:Nat):Int) version).bind λy7=>cond y7 (JB (CT.length+1) (some (.nx (CT++[((i2:Nat):Int)])))) (some (.nx CT)))
def Ii(c:Co)(version:Int):Option (List Int):=(Cn c.Ap version).bind λx1=>(ED x1.un.length (Au (λi y x=>N0   i y x) (λx=>x) (x1.un.drop 0) 0 (Mm.nil:Mm Int Bool))).bind (Eu (λ(afb:(Mm Int Bool))=>(ED x1.wh.length (Au (λi y x=>NM   i y x) (λx=>x) (x1.wh.drop 0) 0 afb)).bind (Eu (λ(Kx:(Mm Int Bool))=>(J6 x1.am Kx).bind λ(Sa,Ke)=>(ED c.Ap.length (Au (λi y x=>MM  c version Ke i y x) (λx=>x) (c.Ap.drop 0) 0 [])).bind (Eu (λ(Qh:(List Int))=>some Qh) (λv=>some v))) (λv=>some v))) (λv=>some v))
def SJ{c:Co}{version:Int}{yR:(List Int)}:Ii  c version=some yR->Pure P G 51 [.agg (Ko c),.zi version] (.sl .lost yR.length (rows G8 yR)):=by
 refine pM Tryz.func51 (Aq (Cj.Cv c) (Aq rfl rfl)) (BU.Bk yR) ?_;unfold Ii;refine Ah λx1 Kn=>?_;refine CF (RA Tryz.f51 λv=>(.sl .lost v.length (rows G8 v))) 69 [24,34,49,56,57,61,62] (λi0 (Cc:(Mm Int Bool))=>[(1,.zi version),(2,.ptr 0 0),(5,.ptr 1 0),(6,.mp 2),(21,.sl .lost x1.un.length (rows G8 x1.un)),(22,.zi ((x1.un.length:Nat):Int)),(23,.zi ((i0:Nat):Int))]) (λCc=>⟨[(2,(LD Cc)),(1,.cells (It x1)),(0,.cells (Ko c))],3,[],0⟩) [21,22,23] [] 0 (sb (Al Tryz.f51) 244) [.code (sb (Al Tryz.f51) 31)] [Bq (PI .lost Kn)] ?_ ?_;rintro i0 e0 Cc j0 r B6 Ca BQ k;show N0   i0 e0 Cc=some r->_;unfold N0;rintro⟨⟩;exact gM [pb (C2 Ca),Bq (XQ .lost B6),iU (alT Cc e0 true),pi BQ] k;rintro afb OV;refine ZX (RA Tryz.f51 λv=>(.sl .lost v.length (rows G8 v))) 69 [24,34,49,56,57,61,62] (λi1 (Cc:(Mm Int Bool))=>[(1,.zi version),(2,.ptr 0 0),(5,.ptr 1 0),(6,.mp 2),(31,.sl .lost x1.wh.length (BD x1.wh)),(32,.zi ((x1.wh.length:Nat):Int)),(33,.zi ((i1:Nat):Int))]) (λCc=>⟨[(2,(LD Cc)),(1,.cells (It x1)),(0,.cells (Ko c))],3,[],0⟩) [31,32,33] [] 2 (sb (Al Tryz.f51) 500) [.code (sb (Al Tryz.f51) 63)] [] ?_ ?_;rintro i1 e1 Cc j1 r Uh S5 Xj k;show NM   i1 e1 Cc=some r->_;unfold NM;refine Cb λOU Mn Jb=>?_;rintro⟨⟩;exact gN [fq (AO.Bk x1.wh)] [V9 Mn,bp (Cr.pl x1),bp (Cj.pl c)] [pb (C2 S5),Bq (Ep .lost Uh),AG (J7 (QS Jb) 2),pi Xj] k;rintro Kx YM;refine Cb λSa Ke Lb=>?_;refine ZX (RA Tryz.f51 λv=>(.sl .lost v.length (rows G8 v))) 69 [24,34,49,56,57,61,62] (λi2 (CT:(List Int))=>[(1,.zi version),(2,.ptr 0 0),(6,.mp 2),(11,.sl (.row 0 1) CT.length (rows G8 CT)),(46,.sl .lost c.Ap.length (rows It c.Ap)),(47,.zi ((c.Ap.length:Nat):Int)),(48,.zi ((i2:Nat):Int))]) (λCT=>⟨[(2,(LD Ke)),(1,.cells (It x1)),(0,.cells (Ko c))],3,[(0,CT.length)],1⟩) [1,2,6,46,47,48] [.t 11 1] 4 (sb (Al Tryz.f51) 4084) [.code (sb (Al Tryz.f51) 511)] [AG (J7 (QS Lb) 2)] ?_ ?_;rintro i2 e2 CT j2 r vA iG mi2 k;show MM  c version Ke i2 e2 CT=some r->_;unfold MM;refine Aa (λAL=>?_) λAL=>?_;refine Hw λhl6=>?_;rintro⟨⟩;exact gN [⟨.sl (.row 0 1) ((CT++[((i2:Nat):Int)]).length) (rows G8 (CT++[((i2:Nat):Int)])),.sl (.row 0 1) ((CT++[((i2:Nat):Int)]).length) (rows G8 (CT++[((i2:Nat):Int)])),(.under (B1 rfl (Af _ _ (BU.Aq (CT++[((i2:Nat):Int)])))))⟩,fq (Cr.Bk c.Ap)] [V9 Ke,bp (Cr.pl x1),bp (Cj.pl c)] [pb (C2 iG),Bq (bD .lost vA),N8 (kD Ke e2.number AL),Ly (Z4 (.row 0 1) CT [((i2:Nat):Int)] (o:=.full) (n:=1) (ns:=[.zi ((i2:Nat):Int)]) (BU.wn [((i2:Nat):Int)] (.r .nil)) rfl rfl (by simp) (by simpa using hl6)),pi mi2] k
 refine Ah λy7 Ub=>?_;let o1:LP:=[pb (C2 iG),Bq (bD .lost vA),N8 (kD Ke e2.number AL),Ag (I1 Ub)];refine Aa ?_ ?_;rintro rfl;refine Hw λhl8=>?_;rintro⟨⟩;exact gN [⟨.sl (.row 0 1) ((CT++[((i2:Nat):Int)]).length) (rows G8 (CT++[((i2:Nat):Int)])),.sl (.row 0 1) ((CT++[((i2:Nat):Int)]).length) (rows G8 (CT++[((i2:Nat):Int)])),(.under (B1 rfl (Af _ _ (BU.Aq (CT++[((i2:Nat):Int)])))))⟩,fq (Cr.Bk c.Ap)] [V9 Ke,bp (Cr.pl x1),bp (Cj.pl c)] (o1++[Ly (Z4 (.row 0 1) CT [((i2:Nat):Int)] (o:=.full) (n:=1) (ns:=[.zi ((i2:Nat):Int)]) (BU.wn [((i2:Nat):Int)] (.r .nil)) rfl rfl (by simp) (by simpa using hl8)),pi mi2]) k
 rintro rfl;rintro⟨⟩;exact gN [⟨.sl (.row 0 1) CT.length (rows G8 CT),.sl (.row 0 1) CT.length (rows G8 CT),(.under (B1 rfl (Af _ _ (BU.Aq CT))))⟩,fq (Cr.Bk c.Ap)] [V9 Ke,bp (Cr.pl x1),bp (Cj.pl c)] (o1++[pi mi2]) k;rintro Qh amI;refine sJ ?_;rintro rfl;exact C7 (v:=.sl (.row 0 1) Qh.length (rows G8 Qh)) [] .body (.wn (.s rfl .nil) (BU.Bk Qh))
def Lj(a2:(Mm Int Bool))(i0:Nat)(e0:Int) :Option (Lp Unit Unit Bool):=cond ((a2.get e0).getD false) (some (.nx ())) (some (.rt false))
def JK(version:Int)(a1:Nat)(kY:(List (List Int)))(a2:(Mm Int Bool)):Option Bool:=(K5 a1 version).bind λk1=>(kY[k1]?).bind λx2=>(ED x2.length (Au (λi y x=>Lj  a2 i y ) (λx=>()) (x2.drop 0) 0 ())).bind (Eu (λ(_:Unit)=>some true) (λv=>some v))
abbrev TQ(version:Int)(a1:Nat)(kY:(List (List Int)))(a2:(Mm Int Bool))(yR:Bool):Prop:=Sound P G (.call 52 [.zi version,.ptr 0 0,.ptr 2 0] ⟨[(3,(LD a2)),(2,.cells [.mp 3]),(1,(.cells (rows No kY))),(0,.cells [.G2 1 0 a1])],4,[],0⟩ (.ret (.zb yR)) ⟨[(3,(LD a2)),(2,.cells [.mp 3]),(1,(.cells (rows No kY))),(0,.cells [.G2 1 0 a1])],4,[],0⟩)
def aZ{version:Int}{a1:Nat}{kY:(List (List Int))}{a2:(Mm Int Bool)}{yR:Bool}(hS:(TQ version a1 kY a2 yR))(u0 u1 u2 u3:Nat)(RV:([u0,u1,u2,u3]:List Nat).Nodup:=by decide)(TE:([]:List Nat).Nodup:=by decide):Cd.ok P G (.H4 52 [.zi version,.ptr u0 0,.ptr u2 0] (.ret (.zb yR)) [(u0,.cells [.G2 u1 0 a1]),(u1,(.cells (rows No kY))),(u2,.cells [.mp u3]),(u3,(LD a2))] [] [(u0,.cells [.G2 u1 0 a1]),(u1,(.cells (rows No kY))),(u2,.cells [.mp u3]),(u3,(LD a2))] []) :=
 Io (M:=[.cells [.G2 1 0 a1],(.cells (rows No kY)),.cells [.mp 3],(LD a2)]) (M2:=[.cells [.G2 1 0 a1],(.cells (rows No kY)),.cells [.mp 3],(LD a2)]) (T:=[]) (T2:=[]) (k:=4) (j:=0) Hd.CY _ _ _ _ hS rfl rfl rfl rfl rfl RV TE rfl rfl (.cons (.cells (.cons (.G2 (by decide)) .nil)) (.cons (.cells (.pl (P5.Aq kY))) (.cons (.cells (.cons (.mp (by decide)) .nil)) (.cons (FT (λ_=>rfl)) .nil)))) (.cons (.cells (.cons (.G2 (by decide)) .nil)) (.cons (.cells (.pl (P5.Aq kY))) (.cons (.cells (.cons (.mp (by decide)) .nil)) (.cons (FT (λ_=>rfl)) .nil)))) (.cons (.pl rfl) (.cons (.ptr (by decide)) (.cons (.ptr (by decide)) .nil))) (.pl rfl) (by
   intro e he;simp only[List.mem_cons,List.not_mem_nil,or_false] at he;rcases he with rfl | rfl | rfl | rfl
   exact(.arg (.there (.here .ptr)));exact(.box (p:=0) (.arg (.there (.here .ptr))) rfl (.here .G2));exact(.arg (.there (.there (.here .ptr))));exact(.box (p:=2) (.arg (.there (.there (.here .ptr)))) rfl (.here .mp))
   )
def Xc{version:Int}{a1:Nat}{kY:(List (List Int))}{a2:(Mm Int Bool)}{yR:Bool}:JK  version a1 kY a2=some yR->(TQ version a1 kY a2 yR):=by
 refine sM Tryz.func52 ?_;unfold JK;refine Ah λk1 wW=>?_;refine Ah λx2 Pp=>?_;refine CF (λQ v=>Jm P G Tryz.f52 4 ⟨[(3,(LD a2)),(2,.cells [.mp 3]),(1,(.cells (rows No kY))),(0,.cells [.G2 1 0 a1])],4,[],0⟩ Q (.zb v) ⟨[(3,(LD a2)),(2,.cells [.mp 3]),(1,(.cells (rows No kY))),(0,.cells [.G2 1 0 a1])],4,[],0⟩) 21 [4,13,18,19] (λi0 (_:Unit)=>[(2,.ptr 2 0),(10,.sl .lost x2.length (rows G8 x2)),(11,.zi ((x2.length:Nat):Int)),(12,.zi ((i0:Nat):Int))]) (λ_=>⟨[(3,(LD a2)),(2,.cells [.mp 3]),(1,(.cells (rows No kY))),(0,.cells [.G2 1 0 a1])],4,[],0⟩) [2,10,11,12] [] 0 (sb (Al Tryz.f52) 52) [.code (sb (Al Tryz.f52) 7)] [Bq (alp (id:=1) wW),sA (aqU Pp)] ?_ ?_;rintro i0 e0 ⟨⟩ j0 r B6 Ca BQ k;show Lj  a2 i0 e0 =some r->_;unfold Lj;refine Aa (λAx=>?_) λAx=>?_;rintro⟨⟩;exact gM [pb (C2 Ca),Bq (XQ .lost B6),N8 (kD a2 e0 Ax),pi BQ] k;rintro⟨⟩;exact gK [] [V9 a2,none,bp (P5.Aq kY),none] [pb (C2 Ca),Bq (XQ .lost B6),N8 (kD a2 e0 Ax)] (.Dv k);rintro⟨⟩ Zv;rintro⟨⟩;exact Om [] [V9 a2,none,bp (P5.Aq kY),none] []
def MO(c:Co)(i0:Nat)(e0:Ar)(LR:(List (List Int))):Option (Lp (List (List Int)) (List (List Int)) ((List Int)×Bool)):=(Ii c ((i0:Nat):Int)).bind λy3=>(LR[i0]?).bind λx4=>some (.nx (LR.set i0 y3))
def Nk(c:Co)(QT:(List (List Int)))(F5:(Mm Int Bool))(i2:Nat)(e2:Ar)(NE:Int):Option (Lp Int Int ((List Int)×Bool)):=cond ((F5.get ((i2:Nat):Int)).getD false) (some (.nx NE)) ((JK ((i2:Nat):Int) c.Ap.length QT F5).bind λy8=>cond y8 (some (.ex ((i2:Nat):Int))) (some (.nx NE)))
def Np(c:Co)(QT:(List (List Int)))(IR:(List Int))(F5:(Mm Int Bool)):Option (Lp ((List Int)×(Mm Int Bool)) ((List Int)×(Mm Int Bool)) ((List Int)×Bool)):=cond (C3 ((IR.length:Nat):Int) ((c.Ap.length:Nat):Int)) ((ED c.Ap.length (Au (λi y x=>Nk  c QT F5 i y x) (λx=>x) (c.Ap.drop 0) 0 (-1))).bind (Eu (λ(Rr:Int)=>cond (C3 Rr 0) (some (.rt ([],false))) (JB (IR.length+1) (some (.nx ((IR++[Rr]),(F5.set Rr true)))))) (λv=>some (.rt v)))) (some (.ex (IR,F5)))
def Is(c:Co):Option ((List Int)×Bool):=(G4 c).bind λy1=>cond y1 (rF (c.Ap.length) ((ED c.Ap.length (Au (λi y x=>MO  c i y x) (λx=>x) (c.Ap.drop 0) 0 (List.replicate c.Ap.length []))).bind (Eu (λ(QT:(List (List Int)))=>(pK (λx=>Np  c QT x.1 x.2) ([],(Mm.nil:Mm Int Bool))).bind (Eu (λ((SE,ahg):((List Int)×(Mm Int Bool)))=>some (SE,true)) (λv=>some v))) (λv=>some v)))) (some ([],true))
def Zl{c:Co}{yR:((List Int)×Bool)}:Is  c=some yR->Pure P G 18 [.agg (Ko c)] (.Bj [.sl .lost yR.1.length (rows G8 yR.1),.zb yR.2]):=by
 refine pM Tryz.func18 (Aq (Cj.Cv c) rfl) (Aq (BU.Bk yR.1) (Aq rfl rfl)) ?_;unfold Is;refine Ah λy1 CK=>?_;refine Aa ?_ ?_;rintro rfl;refine ae1 λjJ=>?_;refine CF (RA Tryz.f18 λv=>(.Bj [.sl .lost v.1.length (rows G8 v.1),.zb v.2])) 64 [3,12,13,21,37,42,46,47,48,51,52,56] (λi0 (LR:(List (List Int)))=>[(1,.ptr 0 0),(4,.ptr 2 0),(19,.zi ((c.Ap.length:Nat):Int)),(20,.zi ((i0:Nat):Int))]) (λLR=>⟨[(2,.cells [.G2 1 0 c.Ap.length]),(1,(.cells (rows No LR))),(0,.cells (Ko c))],3,[],0⟩) [19,20] [] 0 (sb (Al Tryz.f18) 244) [.code (sb (Al Tryz.f18) 31)] [Ag (I2 CK),pmb (aoX (n:=c.Ap.length) jJ)] ?_ ?_;rintro i0 e0 LR j0 r B6 Ca BQ k;show MO  c i0 e0 LR=some r->_;unfold MO;refine Ah λy3 Jb=>?_;refine Ah λx4 Xk=>?_;rintro⟨⟩;exact gM [pb (C2 Ca),pz 6,Ag (SJ Jb),Bq (apc (id:=1) (n:=c.Ap.length) (i:=i0) (by have:=TM (C2 Ca);omega)),psb (aqj Xk y3),pi BQ] k;rintro QT abz;refine am5 (λQ v=>Ws P Tryz.f18 0 Q (.Bj [.sl .lost v.1.length (rows G8 v.1),.zb v.2])) (λ((IR,F5):((List Int)×(Mm Int Bool))) (j1:List Value)=>fr 64 [(1,.ptr 0 0),(6,.ptr 4 0),(7,.fn (.func 52) [] [.ptr 2 0,.ptr 4 0]),(8,.sl (.row 0 1) IR.length (rows G8 IR))] [3,12,13,21,37,42,46,47,48,51,52,56] j1) (λ((IR,F5):((List Int)×(Mm Int Bool)))=>⟨[(4,.cells [.mp 3]),(3,(LD F5)),(2,.cells [.G2 1 0 c.Ap.length]),(1,(.cells (rows No QT))),(0,.cells (Ko c))],5,[(0,IR.length)],1⟩) (λ((IR,F5):((List Int)×(Mm Int Bool))) (jx:List Value)=>fr 64 [(8,.sl (.row 0 1) IR.length (rows G8 IR))] [3,12,13,21,37,42,46,47,48,51,52,56] jx) (λ((IR,F5):((List Int)×(Mm Int Bool)))=>⟨[(4,.cells [.mp 3]),(3,(LD F5)),(2,.cells [.G2 1 0 c.Ap.length]),(1,(.cells (rows No QT))),(0,.cells (Ko c))],5,[(0,IR.length)],1⟩) abz (pY [.t 8 1] 2 (sb (Al Tryz.f18) 2040) [.code (sb (Al Tryz.f18) 511)] (bL 300 []) (by kernel_rfl)) ?_ ?_ (λv h=>by cases h;exact .outer .body);rintro⟨IR,F5⟩ j1 r k;show Np  c QT IR F5=some r->_;unfold Np;refine Aa (λBu=>?_) λBu=>?_;refine CF (RA Tryz.f18 λv=>(.Bj [.sl .lost v.1.length (rows G8 v.1),.zb v.2])) 64 [3,12,13,21,37,42,46,47,48,51,52,56] (λi2 (NE:Int)=>[(1,.ptr 0 0),(6,.ptr 4 0),(7,.fn (.func 52) [] [.ptr 2 0,.ptr 4 0]),(8,.sl (.row 0 1) IR.length (rows G8 IR)),(9,.zi NE),(40,.zi ((c.Ap.length:Nat):Int)),(41,.zi ((i2:Nat):Int))]) (λNE=>⟨[(4,.cells [.mp 3]),(3,(LD F5)),(2,.cells [.G2 1 0 c.Ap.length]),(1,(.cells (rows No QT))),(0,.cells (Ko c))],5,[(0,IR.length)],1⟩) [40,41] [] 4 (sb (Al Tryz.f18) 261204) [.code (sb (Al Tryz.f18) 32651),.Px 3] [pb Bu] ?_ ?_ (hr:=λv h=>by cases h;exact .outer (.Dv k));rintro i2 e2 NE j2 r vA iG mi2 k;show Nk  c QT F5 i2 e2 NE=some r->_;unfold Nk;refine Aa (λBA=>?_) λBA=>?_;rintro⟨⟩;exact gM [pb (C2 iG),N8 (kD F5 ((i2:Nat):Int) BA),pi mi2] k;refine Ah λy8 Xf=>?_;let o1:LP:=[pb (C2 iG),N8 (kD F5 ((i2:Nat):Int) BA),AG (aZ (Xc Xf) 2 1 4 3)];refine Aa ?_ ?_;rintro rfl;rintro⟨⟩;exact gE o1 k;rintro rfl;rintro⟨⟩;exact gM (o1++[pi mi2]) k;rintro Rr amI;refine Aa (λBC=>?_) λBC=>?_;rintro⟨⟩;exact C7 (v:=.Bj [.sl .full 0 [],.zb false]) [pb BC] (.Dv k) (.wn (.u (.z (.r .nil)) .nil) (Aq (BU.Bk []) (Aq rfl rfl)));refine Hw λate=>?_;rintro⟨⟩;exact gMB [pb BC,iU (alT F5 Rr true),Ly (Z4 (.row 0 1) IR [Rr] (o:=.full) (n:=1) (ns:=[.zi Rr]) (BU.wn [Rr] (.r .nil)) rfl rfl (by simp) (by simpa using ate))] k
 rintro⟨⟩;exact gE [pb Bu] k;rintro⟨SE,ahg⟩ ari;dsimp only;refine sJ ?_;rintro rfl;exact C7 (v:=.Bj [.sl (.row 0 1) SE.length (rows G8 SE),.zb true]) [] .body (.wn (.u (.s rfl (.r .nil)) .nil) (Aq (BU.Bk SE) (Aq rfl rfl)));rintro rfl;refine sJ ?_;rintro rfl;exact gA (v:=.Bj [.sl .full 0 [],.zb true]) [Ag (I2 CK)] .body (.wn (.u (.z (.r .nil)) .nil) (Aq (BU.Bk []) (Aq rfl rfl)))
def K3(s:ByteArray):Option Bool:=cond (By s.data.toList Ak.data.toList) (some true) (cond (By s.data.toList AF.data.toList) (some true) (cond (By s.data.toList B2.data.toList) (some true) ((Fj s).bind λy1=>some y1)))
def TO{s:ByteArray}{yR:Bool}:K3  s=some yR->Pure P G 96 [.zs s] (.zb yR):=by
 refine pM Tryz.func96 (Aq rfl rfl) rfl ?_;unfold K3;refine Aa (λAx=>?_) λAx=>?_;rintro⟨⟩;exact rT [pb Ax];refine Aa (λAL=>?_) λAL=>?_;rintro⟨⟩;exact rT [pb Ax,pb AL];refine Aa (λBg=>?_) λBg=>?_;rintro⟨⟩;exact rT [pb Ax,pb AL,pb Bg];refine Ah λy1 CK=>?_;rintro⟨⟩;exact rT [pb Ax,pb AL,pb Bg,Ag (Ge CK)]
def MN(l:(List Dc))(low:Int)(high:Int)(i0:Nat)(e0:Dc) :Option (Lp Unit Unit Bool):=(GX e0.name).bind λy1=>cond y1 ((K3 e0.unit).bind λy2=>cond y2 (cond (C3 e0.WD low) (some (.rt false)) (cond (C3 high e0.WD) (some (.rt false)) ((EA l e0.name).bind λy3=>cond (Ba y3 ((i0:Nat):Int)) (some (.nx ())) (some (.rt false))))) (some (.rt false))) (some (.rt false))
def JO(l:(List Dc))(low:Int)(high:Int):Option Bool:=(ED l.length (Au (λi y x=>MN  l low high i y ) (λx=>()) (l.drop 0) 0 ())).bind (Eu (λ(_:Unit)=>cond (Iy ((l.length:Nat):Int) 32) (some true) (some false)) (λv=>some v))
def KV{l:(List Dc)}{low:Int}{high:Int}{yR:Bool}:JO  l low high=some yR->Pure P G 57 [.sl .lost l.length (rows Dk l),.zi low,.zi high] (.zb yR):=by
 refine pM Tryz.func57 (Aq (Bt.Bk l) (Aq rfl (Aq rfl rfl))) rfl ?_;unfold JO;refine CF (RA Tryz.f57 .zb) 62 [6,11,19,20,21,27,28,29,30,37,38,39,46,47,48,57,58,61] (λi0 (_:Unit)=>[(0,.sl .lost l.length (rows Dk l)),(1,.zi low),(2,.zi high),(7,.zi ((i0:Nat):Int))]) (λ_=>⟨[],0,[],0⟩) [1,2,7] [] 0 (sb (Al Tryz.f57) 52) [.code (sb (Al Tryz.f57) 7)] [] ?_ ?_;rintro i0 e0 ⟨⟩ j0 r B6 Ca BQ k;show MN  l low high i0 e0 =some r->_;unfold MN;refine Ah λy1 CK=>?_;let o1:LP:=[pb (C2 Ca),Bq (X3 .lost B6),Ag (Pr CK)];refine Aa ?_ ?_;rintro rfl;refine Ah λy2 E7=>?_;let o2:LP:=o1++[Bq (X3 .lost B6),Ag (TO E7)];refine Aa ?_ ?_;rintro rfl;refine Aa (λAx=>?_) λAx=>?_;rintro⟨⟩;exact gA (o2++[Bq (X3 .lost B6),pb Ax]) (.Dv k) .sc;let o3:LP:=o2++[Bq (X3 .lost B6),pb Ax,Bq (X3 .lost B6)];refine Aa (λAL=>?_) λAL=>?_;rintro⟨⟩;exact gA (o3++[pb AL]) (.Dv k) .sc;refine Ah λy3 Jb=>?_;refine Aa (λBg=>?_) λBg=>?_;rintro⟨⟩;exact gM (o3++[pb AL,Bq (X3 .lost B6),Ag (JG Jb),pn Bg,pi BQ]) k;rintro⟨⟩;exact gA (o3++[pb AL,Bq (X3 .lost B6),Ag (JG Jb),pn Bg]) (.Dv k) .sc;rintro rfl;rintro⟨⟩;exact gA o2 (.Dv k) .sc;rintro rfl;rintro⟨⟩;exact gA o1 (.Dv k) .sc;rintro⟨⟩ YM;refine Aa (λBu=>?_) λBu=>?_;rintro⟨⟩;exact C7 [pb Bu] .body .sc;rintro⟨⟩;exact C7 [pb Bu] .body .sc
def Ki(number:Int)(i0:Nat)(e0:Ar) :Option (Lp Unit Unit Int):=cond (Ba e0.number number) (some (.rt ((i0:Nat):Int))) (some (.nx ()))
def FQ(c:Co)(number:Int):Option Int:=(ED c.Ap.length (Au (λi y x=>Ki  number i y ) (λx=>()) (c.Ap.drop 0) 0 ())).bind (Eu (λ(_:Unit)=>some (-1)) (λv=>some v))
def IF{c:Co}{number:Int}{yR:Int}:FQ  c number=some yR->Pure P G 58 [.agg (Ko c),.zi number] (.zi yR):=by
 refine pM Tryz.func58 (Aq (Cj.Cv c) (Aq rfl rfl)) rfl ?_;unfold FQ;refine CF (RA Tryz.f58 .zi) 22 [10,20] (λi0 (_:Unit)=>[(1,.zi number),(2,.ptr 0 0),(5,.zi ((i0:Nat):Int))]) (λ_=>⟨[(0,.cells (Ko c))],1,[],0⟩) [1,2,5] [] 0 (sb (Al Tryz.f58) 52) [.code (sb (Al Tryz.f58) 7)] [] ?_ ?_;rintro i0 e0 ⟨⟩ j0 r B6 Ca BQ k;show Ki  number i0 e0 =some r->_;unfold Ki;refine Aa (λAx=>?_) λAx=>?_;rintro⟨⟩;exact gA [pb (C2 Ca),Bq (bD .lost B6),pb Ax] (.Dv k) .sc;rintro⟨⟩;exact gM [pb (C2 Ca),Bq (bD .lost B6),pb Ax,pi BQ] k;rintro⟨⟩ nG;rintro⟨⟩;exact C7 [] .body .sc
def F1(c:Co)(e:Ex):Option Bool:=cond (Ba e.op 1) ((K3 e.unit).bind λy1=>cond y1 (cond (Iy 0 e.n) (cond (Iy e.n 999999999999) (cond (By e.unit.data.toList Ak.data.toList) (cond (Iy e.n 1) (some true) (some false)) (some true)) (some false)) (some false)) (some false)) (cond (Ba e.op 2) (cond (Iy 0 e.n) (cond (C3 e.n ((c.facts.length:Nat):Int)) ((Cn c.facts e.n).bind λx2=>cond (By e.unit.data.toList x2.unit.data.toList) (some true) (some false)) (some false)) (some false)) (cond (Ba e.op 3) ((FQ c e.n).bind λy3=>cond (Iy 0 y3) ((Cn c.Ap y3).bind λx4=>cond (Iy 0 x4.line) (cond (C3 x4.line ((c.lines.length:Nat):Int)) ((Cn c.lines x4.line).bind λx5=>cond (By e.unit.data.toList x5.unit.data.toList) (some true) (some false)) (some false)) (some false)) (some false)) (cond (Ba e.op 4) (cond (Iy 1 e.n) (cond (Iy e.n 4) (cond (By e.unit.data.toList AF.data.toList) (some true) (some false)) (some false)) (some false)) (some false))))
def HZ{c:Co}{e:Ex}{yR:Bool}:F1  c e=some yR->Pure P G 144 [.agg (Ko c),.agg (Fp e)] (.zb yR):=by
 refine pM Tryz.func144 (Aq (Cj.Cv c) (Aq (AO.Cv e) rfl)) rfl ?_;unfold F1;refine Aa (λAx=>?_) λAx=>?_;refine Ah λy1 CK=>?_;let o1:LP:=[pb Ax,Ag (TO CK)];refine Aa ?_ ?_;rintro rfl;refine Aa (λAL=>?_) λAL=>?_;refine Aa (λBg=>?_) λBg=>?_;refine Aa (λBu=>?_) λBu=>?_;refine Aa (λBA=>?_) λBA=>?_;rintro⟨⟩;exact rT (o1++[pb AL,pb Bg,pn Bu,pb BA]);rintro⟨⟩;exact rT (o1++[pb AL,pb Bg,pn Bu,pb BA]);rintro⟨⟩;exact rT (o1++[pb AL,pb Bg,pn Bu]);rintro⟨⟩;exact rT (o1++[pb AL,pb Bg]);rintro⟨⟩;exact rT (o1++[pb AL]);rintro rfl;rintro⟨⟩;exact rT o1;let o2:LP:=[pb Ax];refine Aa (λBC=>?_) λBC=>?_;refine Aa (λB7=>?_) λB7=>?_;refine Aa (λCX=>?_) λCX=>?_;refine Ah λx2 Pp=>?_;refine Aa (λDR=>?_) λDR=>?_;rintro⟨⟩;exact rT (o2++[pb BC,pb B7,pb CX,Bq (RC .lost Pp),pb DR]);rintro⟨⟩;exact rT (o2++[pb BC,pb B7,pb CX,Bq (RC .lost Pp),pb DR]);rintro⟨⟩;exact rT (o2++[pb BC,pb B7,pb CX]);rintro⟨⟩;exact rT (o2++[pb BC,pb B7]);refine Aa (λBM=>?_) λBM=>?_;refine Ah λy3 Jb=>?_;let o3:LP:=o2++[pb BC,pb BM,Ag (IF Jb)];refine Aa (λCL=>?_) λCL=>?_;refine Ah λx4 Xk=>?_;let o4:LP:=o3++[pb CL,Bq (PI .lost Xk)];refine Aa (λCs=>?_) λCs=>?_;refine Aa (λDh=>?_) λDh=>?_;refine Ah λx5 hx5=>?_;let o5:LP:=o4++[pb Cs,Bq (PI .lost Xk),pb Dh,Bq (PI .lost Xk),Bq (RC .lost hx5)];refine Aa (λDG=>?_) λDG=>?_;rintro⟨⟩;exact rT (o5++[pb DG]);rintro⟨⟩;exact rT (o5++[pb DG]);rintro⟨⟩;exact rT (o4++[pb Cs,Bq (PI .lost Xk),pb Dh]);rintro⟨⟩;exact rT (o4++[pb Cs]);rintro⟨⟩;exact rT (o3++[pb CL]);refine Aa (λDp=>?_) λDp=>?_;refine Aa (λEj=>?_) λEj=>?_;refine Aa (λF0=>?_) λF0=>?_;refine Aa (λGL=>?_) λGL=>?_;rintro⟨⟩;exact rT (o2++[pb BC,pb BM,pb Dp,pb Ej,pb F0,pb GL]);rintro⟨⟩;exact rT (o2++[pb BC,pb BM,pb Dp,pb Ej,pb F0,pb GL]);rintro⟨⟩;exact rT (o2++[pb BC,pb BM,pb Dp,pb Ej,pb F0]);rintro⟨⟩;exact rT (o2++[pb BC,pb BM,pb Dp,pb Ej]);rintro⟨⟩;exact rT (o2++[pb BC,pb BM,pb Dp])
def IU(n:Int)(Be:Int):Option Bool:=cond (Iy (alo Be) n) (cond (Iy n Be) (some true) (some false)) (some false)
def Rg{n:Int}{Be:Int}{yR:Bool}:IU  n Be=some yR->Pure P G 172 [.zi n,.zi Be] (.zb yR):=by
 refine pM Tryz.func172 (Aq rfl (Aq rfl rfl)) rfl ?_;unfold IU;refine Aa (λAx=>?_) λAx=>?_;refine Aa (λAL=>?_) λAL=>?_;rintro⟨⟩;exact rT [pb Ax,pb AL];rintro⟨⟩;exact rT [pb Ax,pb AL];rintro⟨⟩;exact rT [pb Ax]
def Nm(f:Fn)(i0:Nat)(e0:Pc) :Option (Lp Unit Unit Bool):=(IU e0.Iz 1000000).bind λy1=>(IU e0.Ct 1000000000000000000).bind λy2=>cond y1 (cond y2 (cond (C3 1000000000000 e0.fr) (some (.rt false)) (cond (Ba ((i0:Nat):Int) 0) (cond (Ba e0.fr 0) (some (.nx ())) (some (.rt false))) (cond (C3 0 ((i0:Nat):Int)) ((Cn f.ps (XG ((i0:Nat):Int) 1)).bind λx3=>cond (Iy e0.fr x3.fr) (some (.rt false)) (some (.nx ()))) (some (.nx ()))))) (some (.rt false))) (some (.rt false))
def LY(f:Fn):Option Bool:=cond (C3 f.den 1) (some false) (cond (C3 1000000 f.den) (some false) (cond (C3 ((f.ps.length:Nat):Int) 1) (some false) (cond (C3 64 ((f.ps.length:Nat):Int)) (some false) ((ED f.ps.length (Au (λi y x=>Nm  f i y ) (λx=>()) (f.ps.drop 0) 0 ())).bind (Eu (λ(_:Unit)=>some true) (λv=>some v))))))
def Zz{f:Fn}{yR:Bool}:LY  f=some yR->Pure P G 145 [.agg (qQ f)] (.zb yR):=by
 refine pM Tryz.func145 (Aq (OW.Cv f) rfl) rfl ?_;unfold LY;refine Aa (λAx=>?_) λAx=>?_;rintro⟨⟩;exact rT [pb Ax];refine Aa (λAL=>?_) λAL=>?_;rintro⟨⟩;exact rT [pb Ax,pb AL];refine Aa (λBg=>?_) λBg=>?_;rintro⟨⟩;exact rT [pb Ax,pb AL,pb Bg];refine Aa (λBu=>?_) λBu=>?_;rintro⟨⟩;exact rT [pb Ax,pb AL,pb Bg,pb Bu];refine CF (RA Tryz.f145 .zb) 81 [2,5,6,9,10,13,14,15,19,20,21,25,26,31,41,44,45,46,47,48,49,50,51,54,55,56,58,59,62,63,64,65,67,68,78,79,80] (λi0 (_:Unit)=>[(1,.ptr 0 0),(3,.zi ((i0:Nat):Int))]) (λ_=>⟨[(0,.cells (qQ f))],1,[],0⟩) [1,3] [] 0 (sb (Al Tryz.f145) 116) [.code (sb (Al Tryz.f145) 15)] [pb Ax,pb AL,pb Bg,pb Bu] ?_ ?_;rintro i0 e0 ⟨⟩ j0 r B6 Ca BQ k;show Nm  f i0 e0 =some r->_;unfold Nm;refine Ah λy1 CK=>?_;refine Ah λy2 E7=>?_;let o1:LP:=[pb (C2 Ca),Bq (Yx .lost B6),Ag (Rg CK),Ag (Rg E7)];refine Aa ?_ ?_;rintro rfl;refine Aa ?_ ?_;rintro rfl;refine Aa (λBA=>?_) λBA=>?_;rintro⟨⟩;exact gA (o1++[pb BA]) (.Dv k) .sc;refine Aa (λBC=>?_) λBC=>?_;refine Aa (λB7=>?_) λB7=>?_;rintro⟨⟩;exact gN [] [bp (OW.pl f)] (o1++[pb BA,pb BC,pn B7,pb (B:=C3 0 ((i0:Nat):Int)) (b:=false) (zY (by have:=Fq BC;omega)),pi BQ]) k;rintro⟨⟩;exact gA (o1++[pb BA,pb BC,pn B7]) (.Dv k) .sc;refine Aa (λCX=>?_) λCX=>?_;refine Ah λx3 lJ=>?_;refine Aa (λDR=>?_) λDR=>?_;rintro⟨⟩;exact gA (o1++[pb BA,pb BC,pb CX,pk,Bq (lP .lost lJ),pb DR]) (.Dv k) .sc;rintro⟨⟩;exact gN [] [bp (OW.pl f)] (o1++[pb BA,pb BC,pb CX,pk,Bq (lP .lost lJ),pb DR,pi BQ]) k;rintro⟨⟩;exact gN [] [bp (OW.pl f)] (o1++[pb BA,pb BC,pb CX,pi BQ]) k;rintro rfl;rintro⟨⟩;exact gA o1 (.Dv k) .sc;rintro rfl;rintro⟨⟩;exact gA o1 (.Dv k) .sc;rintro⟨⟩ YM;rintro⟨⟩;exact C7 [] .body .sc
def OL(e:Ex)(x1:Ex)(i0:Nat)(e0:Ex) :Option (Lp Unit Unit Bool):=cond (Ba e.op 16) (cond (By e0.unit.data.toList x1.unit.data.toList) (some (.nx ())) (some (.rt false))) (cond (Ba e.op 17) (cond (By e0.unit.data.toList x1.unit.data.toList) (some (.nx ())) (some (.rt false))) (some (.nx ())))
def F4(e:Ex):Option Bool:=(e.kids[0]?).bind λx1=>(e.kids[1]?).bind λx2=>(ED e.kids.length (Au (λi y x=>OL  e x1 i y ) (λx=>()) (e.kids.drop 0) 0 ())).bind (Eu (λ(_:Unit)=>cond (Ba e.op 16) (cond (By x1.unit.data.toList Ak.data.toList) (some false) (cond (By e.unit.data.toList x1.unit.data.toList) (some true) (some false))) (cond (Ba e.op 17) (cond (By x1.unit.data.toList Ak.data.toList) (some false) (cond (By e.unit.data.toList x1.unit.data.toList) (some true) (some false))) (cond (Ba ((e.kids.length:Nat):Int) 2) (cond (Ba e.op 6) (cond (By e.unit.data.toList Ak.data.toList) (cond (By x1.unit.data.toList Ak.data.toList) (cond (By x2.unit.data.toList Ak.data.toList) (some true) (some false)) (some false)) (some false)) (cond (Ba e.op 7) (cond (By e.unit.data.toList Ak.data.toList) (cond (By x1.unit.data.toList Ak.data.toList) (cond (By x2.unit.data.toList Ak.data.toList) (some true) (some false)) (some false)) (some false)) (cond (Ba e.op 8) (cond (By e.unit.data.toList Ak.data.toList) (cond (By x1.unit.data.toList x2.unit.data.toList) (some true) (some false)) (some false)) (cond (Ba e.op 9) (cond (By e.unit.data.toList Ak.data.toList) (cond (By x1.unit.data.toList x2.unit.data.toList) (cond (By x1.unit.data.toList Ak.data.toList) (some false) (some true)) (some false)) (some false)) (cond (Ba e.op 10) (cond (By e.unit.data.toList Ak.data.toList) (cond (By x1.unit.data.toList x2.unit.data.toList) (cond (By x1.unit.data.toList Ak.data.toList) (some false) (some true)) (some false)) (some false)) (cond (Ba e.op 11) (cond (By e.unit.data.toList x1.unit.data.toList) (cond (By x1.unit.data.toList x2.unit.data.toList) (cond (By x1.unit.data.toList Ak.data.toList) (some false) (some true)) (some false)) (some false)) (cond (Ba e.op 12) (cond (By e.unit.data.toList x1.unit.data.toList) (cond (By x1.unit.data.toList x2.unit.data.toList) (cond (By x1.unit.data.toList Ak.data.toList) (some false) (some true)) (some false)) (some false)) (cond (Ba e.op 13) (cond (By x1.unit.data.toList Ak.data.toList) (some false) (cond (By x2.unit.data.toList Ak.data.toList) (some false) (cond (By x1.unit.data.toList AF.data.toList) (cond (By e.unit.data.toList x2.unit.data.toList) (some true) (cond (By x2.unit.data.toList AF.data.toList) (cond (By e.unit.data.toList x1.unit.data.toList) (some true) (some false)) (some false))) (cond (By x2.unit.data.toList AF.data.toList) (cond (By e.unit.data.toList x1.unit.data.toList) (some true) (some false)) (some false))))) (cond (Ba e.op 14) (cond (By e.unit.data.toList x1.unit.data.toList) (cond (By x1.unit.data.toList Ak.data.toList) (some false) (cond (Ba x2.op 1) (cond (By x2.unit.data.toList AF.data.toList) (cond (Iy 1 x2.n) (cond (Iy x2.n 1000000) (some true) (some false)) (some false)) (some false)) (some false))) (some false)) (cond (Ba e.op 15) (cond (By x1.unit.data.toList B2.data.toList) ((Fj x2.unit).bind λy4=>cond y4 (cond (By e.unit.data.toList x2.unit.data.toList) (some true) (some false)) (some false)) (some false)) (some false))))))))))) (some false)))) (λv=>some v))
def HU{e:Ex}{yR:Bool}:F4  e=some yR->Pure P G 146 [.agg (Fp e)] (.zb yR):=by
 refine pM Tryz.func146 (Aq (AO.Cv e) rfl) rfl ?_;unfold F4;refine Ah λx1 Kn=>?_;refine Ah λx2 Pp=>?_;refine CF (RA Tryz.f146 .zb) 198 [2,20,25,26,29,30,31,39,40,43,44,47,48,50,51,55,56,60,63,64,65,68,69,71,72,73,75,76,77,78,81,82,85,86,87,88,89,92,93,96,97,98,100,101,102,103,104,108,109,112,113,114,116,117,118,119,121,122,124,125,126,128,129,133,134,135,137,138,142,143,144,145,146,147,151,152,154,155,156,162,163,164,166,167,168,174,175,176,182,183,184,185,187,188,190,191,192,196,197] (λi0 (_:Unit)=>[(1,.ptr 0 0),(3,.zs x1.unit),(4,.zs x2.unit),(5,.zi ((i0:Nat):Int))]) (λ_=>⟨[(0,.cells (Fp e))],1,[],0⟩) [5] [] 0 (sb (Al Tryz.f146) 244) [.code (sb (Al Tryz.f146) 31)] [Bq (Ep .lost Kn),Bq (Ep .lost Pp)] ?_ ?_;rintro i0 e0 ⟨⟩ j0 r B6 Ca BQ k;show OL  e x1 i0 e0 =some r->_;unfold OL;refine Aa (λAx=>?_) λAx=>?_;refine Aa (λAL=>?_) λAL=>?_;rintro⟨⟩;exact gM [pb (C2 Ca),pb Ax,Bq (Ep .lost B6),pn AL,pi BQ] k;rintro⟨⟩;exact gA [pb (C2 Ca),pb Ax,Bq (Ep .lost B6),pn AL] (.Dv k) .sc;refine Aa (λBg=>?_) λBg=>?_;refine Aa (λBu=>?_) λBu=>?_;rintro⟨⟩;exact gM [pb (C2 Ca),pb Ax,pb Bg,Bq (Ep .lost B6),pn Bu,pi BQ] k;rintro⟨⟩;exact gA [pb (C2 Ca),pb Ax,pb Bg,Bq (Ep .lost B6),pn Bu] (.Dv k) .sc;rintro⟨⟩;exact gM [pb (C2 Ca),pb Ax,pb Bg,pi BQ] k;rintro⟨⟩ Zv;refine Aa (λBA=>?_) λBA=>?_;refine Aa (λBC=>?_) λBC=>?_;rintro⟨⟩;exact C7 [pb BA,pn BC] .body .sc;refine Aa (λB7=>?_) λB7=>?_;rintro⟨⟩;exact C7 [pb BA,pn BC,pb B7] .body .sc;rintro⟨⟩;exact C7 [pb BA,pn BC,pb B7] .body .sc;let o1:LP:=[pb BA];refine Aa (λCX=>?_) λCX=>?_;refine Aa (λDR=>?_) λDR=>?_;rintro⟨⟩;exact C7 (o1++[pb CX,pn DR]) .body .sc;refine Aa (λBM=>?_) λBM=>?_;rintro⟨⟩;exact C7 (o1++[pb CX,pn DR,pb BM]) .body .sc;rintro⟨⟩;exact C7 (o1++[pb CX,pn DR,pb BM]) .body .sc;let o2:LP:=o1++[pb CX];refine Aa (λCL=>?_) λCL=>?_;let o3:LP:=o2++[pn CL];refine Aa (λCs=>?_) λCs=>?_;refine Aa (λDh=>?_) λDh=>?_;refine Aa (λDG=>?_) λDG=>?_;refine Aa (λDp=>?_) λDp=>?_;rintro⟨⟩;exact C7 (o3++[pb Cs,pb Dh,pb DG,pb Dp]) .body .sc;rintro⟨⟩;exact C7 (o3++[pb Cs,pb Dh,pb DG,pb Dp]) .body .sc;rintro⟨⟩;exact C7 (o3++[pb Cs,pb Dh,pb DG]) .body .sc;rintro⟨⟩;exact C7 (o3++[pb Cs,pb Dh]) .body .sc;let o4:LP:=o3++[pb Cs];refine Aa (λEj=>?_) λEj=>?_;refine Aa (λF0=>?_) λF0=>?_;refine Aa (λGL=>?_) λGL=>?_;refine Aa (λKF=>?_) λKF=>?_;rintro⟨⟩;exact C7 (o4++[pb Ej,pb F0,pb GL,pb KF]) .body .sc;rintro⟨⟩;exact C7 (o4++[pb Ej,pb F0,pb GL,pb KF]) .body .sc;rintro⟨⟩;exact C7 (o4++[pb Ej,pb F0,pb GL]) .body .sc;rintro⟨⟩;exact C7 (o4++[pb Ej,pb F0]) .body .sc;let o5:LP:=o4++[pb Ej];refine Aa (λKz=>?_) λKz=>?_;refine Aa (λN4=>?_) λN4=>?_;refine Aa (λLu=>?_) λLu=>?_;rintro⟨⟩;exact C7 (o5++[pb Kz,pb N4,pb Lu]) .body .sc;rintro⟨⟩;exact C7 (o5++[pb Kz,pb N4,pb Lu]) .body .sc;rintro⟨⟩;exact C7 (o5++[pb Kz,pb N4]) .body .sc;let o6:LP:=o5++[pb Kz];refine Aa (λMZ=>?_) λMZ=>?_;refine Aa (λT9=>?_) λT9=>?_;refine Aa (λRH=>?_) λRH=>?_;refine Aa (λWW=>?_) λWW=>?_;rintro⟨⟩;exact C7 (o6++[pb MZ,pb T9,pb RH,pn WW]) .body .sc;rintro⟨⟩;exact C7 (o6++[pb MZ,pb T9,pb RH,pn WW]) .body .sc;rintro⟨⟩;exact C7 (o6++[pb MZ,pb T9,pb RH]) .body .sc;rintro⟨⟩;exact C7 (o6++[pb MZ,pb T9]) .body .sc;let o7:LP:=o6++[pb MZ];refine Aa (λQ9=>?_) λQ9=>?_;refine Aa (λXL=>?_) λXL=>?_;refine Aa (λVQ=>?_) λVQ=>?_;refine Aa (λVE=>?_) λVE=>?_;rintro⟨⟩;exact C7 (o7++[pb Q9,pb XL,pb VQ,pn VE]) .body .sc;rintro⟨⟩;exact C7 (o7++[pb Q9,pb XL,pb VQ,pn VE]) .body .sc;rintro⟨⟩;exact C7 (o7++[pb Q9,pb XL,pb VQ]) .body .sc;rintro⟨⟩;exact C7 (o7++[pb Q9,pb XL]) .body .sc;let o8:LP:=o7++[pb Q9];refine Aa (λUX=>?_) λUX=>?_;refine Aa (λYS=>?_) λYS=>?_;refine Aa (λsX=>?_) λsX=>?_;refine Aa (λak9=>?_) λak9=>?_;rintro⟨⟩;exact C7 (o8++[pb UX,pb YS,pb sX,pn ak9]) .body .sc;rintro⟨⟩;exact C7 (o8++[pb UX,pb YS,pb sX,pn ak9]) .body .sc;rintro⟨⟩;exact C7 (o8++[pb UX,pb YS,pb sX]) .body .sc;rintro⟨⟩;exact C7 (o8++[pb UX,pb YS]) .body .sc;let o9:LP:=o8++[pb UX];refine Aa (λabm=>?_) λabm=>?_;refine Aa (λacT=>?_) λacT=>?_;refine Aa (λaih=>?_) λaih=>?_;refine Aa (λalC=>?_) λalC=>?_;rintro⟨⟩;exact C7 (o9++[pb abm,pb acT,pb aih,pn alC]) .body .sc;rintro⟨⟩;exact C7 (o9++[pb abm,pb acT,pb aih,pn alC]) .body .sc;rintro⟨⟩;exact C7 (o9++[pb abm,pb acT,pb aih]) .body .sc;rintro⟨⟩;exact C7 (o9++[pb abm,pb acT]) .body .sc;let So:LP:=o9++[pb abm];refine Aa (λajC=>?_) λajC=>?_;refine Aa (λaoo=>?_) λaoo=>?_;rintro⟨⟩;exact C7 (So++[pb ajC,pn aoo]) .body .sc;let Sn:LP:=So++[pb ajC,pn aoo];refine Aa (λn9=>?_) λn9=>?_;rintro⟨⟩;exact C7 (Sn++[pn n9]) .body .sc;refine Aa (λsK=>?_) λsK=>?_;refine Aa (λafS=>?_) λafS=>?_;rintro⟨⟩;exact C7 (Sn++[pn n9,pb sK,pb afS]) .body .sc;refine Aa (λaiH=>?_) λaiH=>?_;refine Aa (λakN=>?_) λakN=>?_;rintro⟨⟩;exact C7 (Sn++[pn n9,pb sK,pb afS,pb aiH,pb akN]) .body .sc;rintro⟨⟩;exact C7 (Sn++[pn n9,pb sK,pb afS,pb aiH,pb akN]) .body .sc;rintro⟨⟩;exact C7 (Sn++[pn n9,pb sK,pb afS,pb aiH]) .body .sc;refine Aa (λage=>?_) λage=>?_;refine Aa (λanz=>?_) λanz=>?_;rintro⟨⟩;exact C7 (Sn++[pn n9,pb sK,pb age,pb anz]) .body .sc;rintro⟨⟩;exact C7 (Sn++[pn n9,pb sK,pb age,pb anz]) .body .sc;rintro⟨⟩;exact C7 (Sn++[pn n9,pb sK,pb age]) .body .sc;let Tg:LP:=So++[pb ajC];refine Aa (λacy=>?_) λacy=>?_;refine Aa (λaoc=>?_) λaoc=>?_;let TT:LP:=Tg++[pb acy,pb aoc];refine Aa (λanv=>?_) λanv=>?_;rintro⟨⟩;exact C7 (TT++[pn anv]) .body .sc;let cH:LP:=TT++[pn anv,Bq (Ep .lost Pp)];refine Aa (λajf=>?_) λajf=>?_;refine Aa (λak2=>?_) λak2=>?_;let aA:LP:=cH++[pb ajf,pb ak2,Bq (Ep .lost Pp)];refine Aa (λail=>?_) λail=>?_;refine Aa (λams=>?_) λams=>?_;rintro⟨⟩;exact C7 (aA++[pb ail,Bq (Ep .lost Pp),pb ams]) .body .sc;rintro⟨⟩;exact C7 (aA++[pb ail,Bq (Ep .lost Pp),pb ams]) .body .sc;rintro⟨⟩;exact C7 (aA++[pb ail]) .body .sc;rintro⟨⟩;exact C7 (cH++[pb ajf,pb ak2]) .body .sc;rintro⟨⟩;exact C7 (cH++[pb ajf]) .body .sc;rintro⟨⟩;exact C7 (Tg++[pb acy,pb aoc]) .body .sc;refine Aa (λahh=>?_) λahh=>?_;refine Aa (λanQ=>?_) λanQ=>?_;refine Ah λy4 OD=>?_;let WT:LP:=Tg++[pb acy,pb ahh,pb anQ,Ag (Ge OD)];refine Aa ?_ ?_;rintro rfl;refine Aa (λam2=>?_) λam2=>?_;rintro⟨⟩;exact C7 (WT++[pb am2]) .body .sc;rintro⟨⟩;exact C7 (WT++[pb am2]) .body .sc;rintro rfl;rintro⟨⟩;exact C7 WT .body .sc;rintro⟨⟩;exact C7 (Tg++[pb acy,pb ahh,pb anQ]) .body .sc;rintro⟨⟩;exact C7 (Tg++[pb acy,pb ahh]) .body .sc;rintro⟨⟩;exact C7 (o2++[pn CL]) .body .sc
def ON(Jh:Co->Ex->Option Bool)(c:Co)(i0:Nat)(e0:Ex) :Option (Lp Unit Unit Bool):=(Jh c e0).bind λy1=>cond y1 (some (.nx ())) (some (.rt false))
def PN(Jh:Co->Ex->Option Bool)(c:Co)(e:Ex):Option Bool:=(ED e.kids.length (Au (λi y x=>ON Jh c i y ) (λx=>()) (e.kids.drop 0) 0 ())).bind (Eu (λ(_:Unit)=>cond (Ba e.op 1) (cond (Ba e.BX.den 0) (cond (Ba ((e.BX.ps.length:Nat):Int) 0) (cond (Ba ((e.kids.length:Nat):Int) 0) ((F1 c e).bind λy3=>some y3) (cond (Ba ((e.kids.length:Nat):Int) 1) (some false) ((F4 e).bind λy4=>some y4))) (some false)) (some false)) (cond (Ba e.op 2) (cond (Ba e.BX.den 0) (cond (Ba ((e.BX.ps.length:Nat):Int) 0) (cond (Ba ((e.kids.length:Nat):Int) 0) ((F1 c e).bind λy5=>some y5) (cond (Ba ((e.kids.length:Nat):Int) 1) (some false) ((F4 e).bind λy6=>some y6))) (some false)) (some false)) (cond (Ba e.op 3) (cond (Ba e.BX.den 0) (cond (Ba ((e.BX.ps.length:Nat):Int) 0) (cond (Ba ((e.kids.length:Nat):Int) 0) ((F1 c e).bind λy7=>some y7) (cond (Ba ((e.kids.length:Nat):Int) 1) (some false) ((F4 e).bind λy8=>some y8))) (some false)) (some false)) (cond (Ba e.op 4) (cond (Ba e.BX.den 0) (cond (Ba ((e.BX.ps.length:Nat):Int) 0) (cond (Ba ((e.kids.length:Nat):Int) 0) ((F1 c e).bind λy9=>some y9) (cond (Ba ((e.kids.length:Nat):Int) 1) (some false) ((F4 e).bind λYT=>some YT))) (some false)) (some false)) (cond (Ba e.n 0) (cond (Ba e.op 18) (cond (Ba ((e.kids.length:Nat):Int) 0) ((F1 c e).bind λnI=>some nI) (cond (Ba ((e.kids.length:Nat):Int) 1) ((e.kids[0]?).bind λx12=>cond (By e.unit.data.toList x12.unit.data.toList) ((Fj e.unit).bind λoG=>cond oG ((LY e.BX).bind λnZ=>some nZ) (some false)) (some false)) ((F4 e).bind λxA=>some xA))) (cond (Ba e.BX.den 0) (cond (Ba ((e.BX.ps.length:Nat):Int) 0) (cond (Ba ((e.kids.length:Nat):Int) 0) ((F1 c e).bind λy16=>some y16) (cond (Ba ((e.kids.length:Nat):Int) 1) (cond (Ba e.op 5) (cond (By e.unit.data.toList Ak.data.toList) ((e.kids[0]?).bind λx17=>cond (By x17.unit.data.toList Ak.data.toList) (some true) (some false)) (some false)) (some false)) ((F4 e).bind λgX=>some gX))) (some false)) (some false))) (some false)))))) (λv=>some v))
def aN(Jh:Co->Ex->Option Bool)(Wc:∀{c:Co} {e:Ex} {yR:Bool},Jh c e=some yR->Pure P G 97 [.agg (Ko c),.agg (Fp e)] (.zb yR)){c:Co}{e:Ex}{yR:Bool}:PN Jh c e=some yR->Pure P G 97 [.agg (Ko c),.agg (Fp e)] (.zb yR):=by
 refine pM Tryz.func97 (Aq (Cj.Cv c) (Aq (AO.Cv e) rfl)) rfl ?_;unfold PN;refine CF (RA Tryz.f97 .zb) 115 [4,10,19,20,23,24,27,28,29,32,33,34,37,38,39,42,43,44,47,48,52,53,58,59,60,61,65,66,69,70,71,74,75,78,79,80,86,87,88,91,92,100,101,102,105,106,107,110,111,112,114] (λi0 (_:Unit)=>[(2,.ptr 0 0),(3,.ptr 1 0),(5,.zi ((i0:Nat):Int))]) (λ_=>⟨[(1,.cells (Fp e)),(0,.cells (Ko c))],2,[],0⟩) [5] [] 0 (sb (Al Tryz.f97) 52) [.code (sb (Al Tryz.f97) 7)] [] ?_ ?_;rintro i0 e0 ⟨⟩ j0 r B6 Ca BQ k;show ON Jh c i0 e0 =some r->_;unfold ON;refine Ah λy1 CK=>?_;refine Aa ?_ ?_;rintro rfl;rintro⟨⟩;exact gM [pb (C2 Ca),Bq (Ep .lost B6),Ag (Wc CK),pi BQ] k;rintro rfl;rintro⟨⟩;exact gA [pb (C2 Ca),Bq (Ep .lost B6),Ag (Wc CK)] (.Dv k) .sc;rintro⟨⟩ OV;refine Aa (λAx=>?_) λAx=>?_;let o1:LP:=[pn Ax,pn (B:=Ba e.op 18) (b:=false) (by rw[Fq Ax];rfl)];refine Aa (λAL=>?_) λAL=>?_;refine Aa (λBg=>?_) λBg=>?_;refine Aa (λBu=>?_) λBu=>?_;refine Ah λy3 Jb=>?_;rintro⟨⟩;exact C7 (o1++[pn AL,pn Bg,pb Bu,Ag (HZ Jb)]) .body .sc;refine Aa (λBA=>?_) λBA=>?_;rintro⟨⟩;exact C7 (o1++[pn AL,pn Bg,pb Bu,pb BA,pb (B:=Ba e.op 5) (b:=false) (by rw[Fq Ax];rfl),pb (B:=Ba e.op 18) (b:=false) (by rw[Fq Ax];rfl)]) .body .sc;refine Ah λy4 OD=>?_;rintro⟨⟩;exact C7 (o1++[pn AL,pn Bg,pb Bu,pb BA,Ag (HU OD)]) .body .sc;rintro⟨⟩;exact C7 (o1++[pn AL,pn Bg]) .body .sc;rintro⟨⟩;exact C7 (o1++[pn AL]) .body .sc;let o2:LP:=[pn Ax];refine Aa (λBC=>?_) λBC=>?_;let o3:LP:=o2++[pn BC,pn (B:=Ba e.op 18) (b:=false) (by rw[Fq BC];rfl)];refine Aa (λB7=>?_) λB7=>?_;refine Aa (λCX=>?_) λCX=>?_;refine Aa (λDR=>?_) λDR=>?_;refine Ah λy5 Lb=>?_;rintro⟨⟩;exact C7 (o3++[pn B7,pn CX,pb DR,Ag (HZ Lb)]) .body .sc;refine Aa (λBM=>?_) λBM=>?_;rintro⟨⟩;exact C7 (o3++[pn B7,pn CX,pb DR,pb BM,pb (B:=Ba e.op 5) (b:=false) (by rw[Fq BC];rfl),pb (B:=Ba e.op 18) (b:=false) (by rw[Fq BC];rfl)]) .body .sc;refine Ah λy6 Rq=>?_;rintro⟨⟩;exact C7 (o3++[pn B7,pn CX,pb DR,pb BM,Ag (HU Rq)]) .body .sc;rintro⟨⟩;exact C7 (o3++[pn B7,pn CX]) .body .sc;rintro⟨⟩;exact C7 (o3++[pn B7]) .body .sc;let o4:LP:=o2++[pn BC];refine Aa (λCL=>?_) λCL=>?_;let o5:LP:=o4++[pn CL,pn (B:=Ba e.op 18) (b:=false) (by rw[Fq CL];rfl)];refine Aa (λCs=>?_) λCs=>?_;refine Aa (λDh=>?_) λDh=>?_;refine Aa (λDG=>?_) λDG=>?_;refine Ah λy7 Ub=>?_;rintro⟨⟩;exact C7 (o5++[pn Cs,pn Dh,pb DG,Ag (HZ Ub)]) .body .sc;refine Aa (λDp=>?_) λDp=>?_;rintro⟨⟩;exact C7 (o5++[pn Cs,pn Dh,pb DG,pb Dp,pb (B:=Ba e.op 5) (b:=false) (by rw[Fq CL];rfl),pb (B:=Ba e.op 18) (b:=false) (by rw[Fq CL];rfl)]) .body .sc;refine Ah λy8 Xf=>?_;rintro⟨⟩;exact C7 (o5++[pn Cs,pn Dh,pb DG,pb Dp,Ag (HU Xf)]) .body .sc;rintro⟨⟩;exact C7 (o5++[pn Cs,pn Dh]) .body .sc;rintro⟨⟩;exact C7 (o5++[pn Cs]) .body .sc;let o6:LP:=o4++[pn CL];refine Aa (λEj=>?_) λEj=>?_;let o7:LP:=o6++[pn Ej,pn (B:=Ba e.op 18) (b:=false) (by rw[Fq Ej];rfl)];refine Aa (λF0=>?_) λF0=>?_;refine Aa (λGL=>?_) λGL=>?_;refine Aa (λKF=>?_) λKF=>?_;refine Ah λy9 cF=>?_;rintro⟨⟩;exact C7 (o7++[pn F0,pn GL,pb KF,Ag (HZ cF)]) .body .sc;refine Aa (λKz=>?_) λKz=>?_;rintro⟨⟩;exact C7 (o7++[pn F0,pn GL,pb KF,pb Kz,pb (B:=Ba e.op 5) (b:=false) (by rw[Fq Ej];rfl),pb (B:=Ba e.op 18) (b:=false) (by rw[Fq Ej];rfl)]) .body .sc;refine Ah λYT Pw=>?_;rintro⟨⟩;exact C7 (o7++[pn F0,pn GL,pb KF,pb Kz,Ag (HU Pw)]) .body .sc;rintro⟨⟩;exact C7 (o7++[pn F0,pn GL]) .body .sc;rintro⟨⟩;exact C7 (o7++[pn F0]) .body .sc;let o8:LP:=o6++[pn Ej];refine Aa (λN4=>?_) λN4=>?_;let o9:LP:=o8++[pn N4];refine Aa (λLu=>?_) λLu=>?_;refine Aa (λMZ=>?_) λMZ=>?_;refine Ah λnI X5=>?_;rintro⟨⟩;exact C7 (o9++[pn Lu,pb MZ,Ag (HZ X5)]) .body .sc;refine Aa (λT9=>?_) λT9=>?_;refine Ah λx12 abQ=>?_;let So:LP:=o9++[pn Lu,pb MZ,pb T9,pb (B:=Ba e.op 5) (b:=false) (by rw[Fq Lu];rfl),pb Lu,Bq (Ep .lost abQ)];refine Aa (λRH=>?_) λRH=>?_;refine Ah λoG Ux=>?_;refine Aa ?_ ?_;rintro rfl;refine Ah λnZ Tl=>?_;rintro⟨⟩;exact C7 (So++[pb RH,Ag (Ge Ux),Ag (Zz Tl)]) .body .sc;rintro rfl;rintro⟨⟩;exact C7 (So++[pb RH,Ag (Ge Ux)]) .body .sc;rintro⟨⟩;exact C7 (So++[pb RH]) .body .sc;refine Ah λxA VG=>?_;rintro⟨⟩;exact C7 (o9++[pn Lu,pb MZ,pb T9,Ag (HU VG)]) .body .sc;refine Aa (λWW=>?_) λWW=>?_;let Sn:LP:=o9++[pn Lu,pn WW];refine Aa (λQ9=>?_) λQ9=>?_;refine Aa (λXL=>?_) λXL=>?_;refine Ah λy16 Zd=>?_;rintro⟨⟩;exact C7 (Sn++[pn Q9,pb XL,Ag (HZ Zd)]) .body .sc;refine Aa (λVQ=>?_) λVQ=>?_;let Tg:LP:=Sn++[pn Q9,pb XL,pb VQ];refine Aa (λVE=>?_) λVE=>?_;refine Aa (λUX=>?_) λUX=>?_;refine Ah λx17 jY=>?_;refine Aa (λYS=>?_) λYS=>?_;rintro⟨⟩;exact C7 (Tg++[pb VE,pb UX,Bq (Ep .lost jY),pb YS]) .body .sc;rintro⟨⟩;exact C7 (Tg++[pb VE,pb UX,Bq (Ep .lost jY),pb YS,pb Lu]) .body .sc;rintro⟨⟩;exact C7 (Tg++[pb VE,pb UX,pb Lu]) .body .sc;rintro⟨⟩;exact C7 (Tg++[pb VE,pb Lu]) .body .sc;refine Ah λgX Tn=>?_;rintro⟨⟩;exact C7 (Sn++[pn Q9,pb XL,pb VQ,Ag (HU Tn)]) .body .sc;rintro⟨⟩;exact C7 (Sn++[pn Q9]) .body .sc;rintro⟨⟩;exact C7 (o9++[pn Lu,pn WW]) .body .sc;rintro⟨⟩;exact C7 (o8++[pn N4]) .body .sc
def H2:Nat->Co->Ex->Option Bool
 | 0,_,_=>none
 | qn+1,c,e=>PN (H2 qn) c e
def gF:∀qn:Nat,∀{c:Co} {e:Ex} {yR:Bool},H2 qn c e=some yR->Pure P G 97 [.agg (Ko c),.agg (Fp e)] (.zb yR):=by
 intro qn
 induction qn with
 | zero=>exact(λh=>by simp only[H2] at h;cases h)
 | succ qn ih=>exact(λh=>aN (H2 qn) ih (by rw[H2] at h;exact h))
def S9(c:Co)(e:Ex):Option Bool:=cA (λqn=>H2 qn c e)
def jB{c:Co}{e:Ex}{yR:Bool}(h:S9 c e=some yR):Pure P G 97 [.agg (Ko c),.agg (Fp e)] (.zb yR):=by
 obtain⟨qn,h⟩:=Th h;exact(gF qn) h
def K8(c:Co)(e:Ex):Option Bool:=(Hx e).bind λy1=>cond y1 ((S9 c e).bind λy2=>some y2) (some false)
def Md{c:Co}{e:Ex}{yR:Bool}:K8  c e=some yR->Pure P G 59 [.agg (Ko c),.agg (Fp e)] (.zb yR):=by
 refine pM Tryz.func59 (Aq (Cj.Cv c) (Aq (AO.Cv e) rfl)) rfl ?_;unfold K8;refine Ah λy1 CK=>?_;refine Aa ?_ ?_;rintro rfl;refine Ah λy2 E7=>?_;rintro⟨⟩;exact rT [Ag (Ny CK),Ag (jB E7)];rintro rfl;rintro⟨⟩;exact rT [Ag (Ny CK)]
def Ky(c:Co)(i1:Nat)(e1:Ex) :Option (Lp Unit Unit Bool):=(K8 c e1).bind λy5=>cond y5 (cond (By e1.unit.data.toList Ak.data.toList) (some (.nx ())) (some (.rt false))) (some (.rt false))
def Kv(c:Co)(i2:Nat)(e2:Int) :Option (Lp Unit Unit Bool):=(FQ c e2).bind λy7=>cond (C3 y7 0) (some (.rt false)) (some (.nx ()))
def NB(c:Co)(i0:Nat)(e0:Ar) :Option (Lp Unit Unit Bool):=cond (C3 e0.number 1) (some (.rt false)) (cond (C3 1000000 e0.number) (some (.rt false)) (cond (C3 e0.line 0) (some (.rt false)) (cond (Iy ((c.lines.length:Nat):Int) e0.line) (some (.rt false)) ((FQ c e0.number).bind λy3=>(Cn c.Ap y3).bind λx4=>cond (Ba e0.line x4.line) (cond (C3 e0.R9 0) (some (.rt false)) (cond (C3 1000000 e0.R9) (some (.rt false)) (cond (C3 e0.fr 0) (some (.rt false)) (cond (Iy e0.to e0.fr) (some (.rt false)) (cond (C3 36525 e0.to) (some (.rt false)) (cond (C3 e0.known 0) (some (.rt false)) (cond (C3 36524 e0.known) (some (.rt false)) ((ED e0.wh.length (Au (λi y x=>Ky  c i y ) (λx=>()) (e0.wh.drop 0) 0 ())).bind (Eu (λ(_:Unit)=>(ED e0.un.length (Au (λi y x=>Kv  c i y ) (λx=>()) (e0.un.drop 0) 0 ())).bind (Eu (λ(_:Unit)=>(K8 c e0.am).bind λy9=>cond y9 ((Cn c.lines e0.line).bind λx10=>cond (By e0.am.unit.data.toList x10.unit.data.toList) (some (.nx ())) (some (.rt false))) (some (.rt false))) (λv=>some (.rt v)))) (λv=>some (.rt v))))))))))) (some (.rt false))))))
def Hf(c:Co):Option Bool:=(JO c.facts 0 0).bind λy1=>cond y1 ((JO c.lines 1 4).bind λy2=>cond y2 (cond (C3 60 ((c.Ap.length:Nat):Int)) (some false) ((ED c.Ap.length (Au (λi y x=>NB  c i y ) (λx=>()) (c.Ap.drop 0) 0 ())).bind (Eu (λ(_:Unit)=>some true) (λv=>some v)))) (some false)) (some false)
def IZ{c:Co}{yR:Bool}:Hf  c=some yR->Pure P G 23 [.agg (Ko c)] (.zb yR):=by
 refine pM Tryz.func23 (Aq (Cj.Cv c) rfl) rfl ?_;unfold Hf;refine Ah λy1 CK=>?_;let o1:LP:=[Ag (KV CK)];refine Aa ?_ ?_;rintro rfl;refine Ah λy2 E7=>?_;refine Aa ?_ ?_;rintro rfl;refine Aa (λAx=>?_) λAx=>?_;rintro⟨⟩;exact rT (o1++[Ag (KV E7),pb Ax]);refine CF (RA Tryz.f23 .zb) 162 [2,9,10,11,14,15,16,17,21,22,27,37,38,41,42,43,46,47,48,54,55,56,68,69,70,73,74,75,78,79,82,83,88,89,90,93,94,95,98,99,100,103,104,109,118,119,120,127,128,133,143,147,148,149,160,161] (λi0 (_:Unit)=>[(1,.ptr 0 0),(3,.zi ((i0:Nat):Int))]) (λ_=>⟨[(0,.cells (Ko c))],1,[],0⟩) [1,3] [] 0 (sb (Al Tryz.f23) 116) [.code (sb (Al Tryz.f23) 15)] (o1++[Ag (KV E7),pb Ax]) ?_ ?_;rintro i0 e0 ⟨⟩ j0 r B6 Ca BQ k;show NB  c i0 e0 =some r->_;unfold NB;let o2:LP:=[pb (C2 Ca),Bq (bD .lost B6)];refine Aa (λAL=>?_) λAL=>?_;rintro⟨⟩;exact gA (o2++[pb AL]) (.Dv k) .sc;let o3:LP:=o2++[pb AL];refine Aa (λBg=>?_) λBg=>?_;rintro⟨⟩;exact gA (o3++[pb Bg]) (.Dv k) .sc;let o4:LP:=o3++[pb Bg];refine Aa (λBu=>?_) λBu=>?_;rintro⟨⟩;exact gA (o4++[pb Bu]) (.Dv k) .sc;refine Aa (λBA=>?_) λBA=>?_;rintro⟨⟩;exact gA (o4++[pb Bu,pb BA]) (.Dv k) .sc;refine Ah λy3 Jb=>?_;refine Ah λx4 Xk=>?_;let o5:LP:=o4++[pb Bu,pb BA,Ag (IF Jb),Bq (PI .lost Xk)];refine Aa (λBC=>?_) λBC=>?_;refine Aa (λB7=>?_) λB7=>?_;rintro⟨⟩;exact gA (o5++[pn BC,pb B7]) (.Dv k) .sc;let o6:LP:=o5++[pn BC,pb B7];refine Aa (λCX=>?_) λCX=>?_;rintro⟨⟩;exact gA (o6++[pb CX]) (.Dv k) .sc;refine Aa (λDR=>?_) λDR=>?_;rintro⟨⟩;exact gA (o6++[pb CX,pb DR]) (.Dv k) .sc;refine Aa (λBM=>?_) λBM=>?_;rintro⟨⟩;exact gA (o6++[pb CX,pb DR,pb BM]) (.Dv k) .sc;refine Aa (λCL=>?_) λCL=>?_;rintro⟨⟩;exact gA (o6++[pb CX,pb DR,pb BM,pb CL]) (.Dv k) .sc;refine Aa (λCs=>?_) λCs=>?_;rintro⟨⟩;exact gA (o6++[pb CX,pb DR,pb BM,pb CL,pb Cs]) (.Dv k) .sc;refine Aa (λDh=>?_) λDh=>?_;rintro⟨⟩;exact gA (o6++[pb CX,pb DR,pb BM,pb CL,pb Cs,pb Dh]) (.Dv k) .sc;refine CF (RA Tryz.f23 .zb) 162 [2,9,10,11,14,15,16,17,21,22,27,37,38,41,42,43,46,47,48,54,55,56,68,69,70,73,74,75,78,79,82,83,88,89,90,93,94,95,98,99,100,103,104,109,118,119,120,127,128,133,143,147,148,149,160,161] (λi1 (_:Unit)=>[(1,.ptr 0 0),(3,.zi ((i0:Nat):Int)),(4,.ptr 1 0),(5,.zi ((i1:Nat):Int))]) (λ_=>⟨[(1,.cells (It e0)),(0,.cells (Ko c))],2,[],0⟩) [5] [] 2 (sb (Al Tryz.f23) 119412) [.code (sb (Al Tryz.f23) 14927),.Px 1,.code (sb (Al Tryz.f23) 467)] (o6++[pb CX,pb DR,pb BM,pb CL,pb Cs,pb Dh]) ?_ ?_ (hr:=λv h=>by cases h;exact .outer (.Dv k));rintro i1 e1 ⟨⟩ j1 r Uh S5 Xj k;show Ky  c i1 e1 =some r->_;unfold Ky;refine Ah λy5 Lb=>?_;let o7:LP:=[pb (C2 S5),Bq (Ep .lost Uh),Ag (Md Lb)];refine Aa ?_ ?_;rintro rfl;refine Aa (λDG=>?_) λDG=>?_;rintro⟨⟩;exact gM (o7++[Bq (Ep .lost Uh),pn DG,pi Xj]) k;rintro⟨⟩;exact gA (o7++[Bq (Ep .lost Uh),pn DG]) (.Dv k) .sc;rintro rfl;rintro⟨⟩;exact gA o7 (.Dv k) .sc;rintro⟨⟩ aol;refine ZX (RA Tryz.f23 .zb) 162 [2,9,10,11,14,15,16,17,21,22,27,37,38,41,42,43,46,47,48,54,55,56,68,69,70,73,74,75,78,79,82,83,88,89,90,93,94,95,98,99,100,103,104,109,118,119,120,127,128,133,143,147,148,149,160,161] (λi2 (_:Unit)=>[(1,.ptr 0 0),(3,.zi ((i0:Nat):Int)),(4,.ptr 1 0),(6,.zi ((i2:Nat):Int))]) (λ_=>⟨[(1,.cells (It e0)),(0,.cells (Ko c))],2,[],0⟩) [6] [] 4 (sb (Al Tryz.f23) 238836) [.code (sb (Al Tryz.f23) 29855),.Px 1,.code (sb (Al Tryz.f23) 467)] [] ?_ ?_ (hr:=λv h=>by cases h;exact .outer (.Dv k));rintro i2 e2 ⟨⟩ j2 r vA iG mi2 k;show Kv  c i2 e2 =some r->_;unfold Kv;refine Ah λy7 Ub=>?_;refine Aa (λDp=>?_) λDp=>?_;rintro⟨⟩;exact gA [pb (C2 iG),Bq (XQ .lost vA),Ag (IF Ub),pb Dp] (.Dv k) .sc;rintro⟨⟩;exact gM [pb (C2 iG),Bq (XQ .lost vA),Ag (IF Ub),pb Dp,pi mi2] k;rintro⟨⟩ ae0;refine Ah λy9 cF=>?_;refine Aa ?_ ?_;rintro rfl;refine Ah λx10 ai1=>?_;refine Aa (λEj=>?_) λEj=>?_;rintro⟨⟩;exact gNB [] [bp (Cj.pl c)] [Ag (Md cF),Bq (RC .lost ai1),pn Ej,pi BQ] k;rintro⟨⟩;exact C7 [Ag (Md cF),Bq (RC .lost ai1),pn Ej] (.Dv k) .sc;rintro rfl;rintro⟨⟩;exact C7 [Ag (Md cF)] (.Dv k) .sc;rintro⟨⟩;exact gA (o5++[pn BC]) (.Dv k) .sc;rintro⟨⟩ ari;rintro⟨⟩;exact C7 [] .body .sc;rintro rfl;rintro⟨⟩;exact rT (o1++[Ag (KV E7)]);rintro rfl;rintro⟨⟩;exact rT o1
def H7(b:Fn)(i0:Nat)(e0:Pc) :Option (Lp Unit Unit Bool):=(b.ps[i0]?).bind λx1=>cond (Qf e0 x1) (some (.nx ())) (some (.rt false))
def FI(a:Fn)(b:Fn):Option Bool:=cond (Ba a.den b.den) (cond (Ba ((a.ps.length:Nat):Int) ((b.ps.length:Nat):Int)) ((ED a.ps.length (Au (λi y x=>H7  b i y ) (λx=>()) (a.ps.drop 0) 0 ())).bind (Eu (λ(_:Unit)=>some true) (λv=>some v))) (some false)) (some false)
def VK{a:Fn}{b:Fn}{yR:Bool}:FI  a b=some yR->Pure P G 73 [.agg (qQ a),.agg (qQ b)] (.zb yR):=by
 refine pM Tryz.func73 (Aq (OW.Cv a) (Aq (OW.Cv b) rfl)) rfl ?_;unfold FI;refine Aa (λAx=>?_) λAx=>?_;refine Aa (λAL=>?_) λAL=>?_;refine CF (RA Tryz.f73 .zb) 38 [4,10,11,18,19,24,37] (λi0 (_:Unit)=>[(2,.ptr 0 0),(3,.ptr 1 0),(5,.zi ((i0:Nat):Int))]) (λ_=>⟨[(1,.cells (qQ b)),(0,.cells (qQ a))],2,[],0⟩) [2,3,5] [] 0 (sb (Al Tryz.f73) 116) [.code (sb (Al Tryz.f73) 15)] [pn Ax,pn AL] ?_ ?_;rintro i0 e0 ⟨⟩ j0 r B6 Ca BQ k;show H7  b i0 e0 =some r->_;unfold H7;refine Ah λx1 Kn=>?_;refine Aa (λBg=>?_) λBg=>?_;rintro⟨⟩;exact gM [pb (C2 Ca),Bq (Yx .lost B6),Bq (Yx .lost Kn),Dx (oF Bg (.tmp 31) (.tmp 36)),pi BQ] k;rintro⟨⟩;exact gA [pb (C2 Ca),Bq (Yx .lost B6),Bq (Yx .lost Kn),Dx (oF Bg (.tmp 31) (.tmp 36))] (.Dv k) .sc;rintro⟨⟩ OV;rintro⟨⟩;exact C7 [] .body .sc;rintro⟨⟩;exact rT [pn Ax,pn AL];rintro⟨⟩;exact rT [pn Ax]
end Mo
end Go.Proofs.YtnijkdknnmgoeaaGreat
namespace Go.Proofs.YtnijkdknnmgoeaaGreat
open AI Go
namespace Mo
set_option maxRecDepth 100000
set_option maxHeartbeats 4000000
def LO(Jj:Ex->Ex->Option Bool)(b:Ex)(i0:Nat)(e0:Ex) :Option (Lp Unit Unit Bool):=(b.kids[i0]?).bind λx2=>(Jj e0 x2).bind λy3=>cond y3 (some (.nx ())) (some (.rt false))
def MT(Jj:Ex->Ex->Option Bool)(a:Ex)(b:Ex):Option Bool:=cond (Ba a.op b.op) (cond (Ba a.n b.n) (cond (By a.unit.data.toList b.unit.data.toList) ((FI a.BX b.BX).bind λy1=>cond y1 (cond (Ba ((a.kids.length:Nat):Int) ((b.kids.length:Nat):Int)) ((ED a.kids.length (Au (λi y x=>LO Jj b i y ) (λx=>()) (a.kids.drop 0) 0 ())).bind (Eu (λ(_:Unit)=>some true) (λv=>some v))) (some false)) (some false)) (some false)) (some false)) (some false)
def bK(Jj:Ex->Ex->Option Bool)(jV:∀{a:Ex} {b:Ex} {yR:Bool},Jj a b=some yR->Pure P G 41 [.agg (Fp a),.agg (Fp b)] (.zb yR)){a:Ex}{b:Ex}{yR:Bool}:MT Jj a b=some yR->Pure P G 41 [.agg (Fp a),.agg (Fp b)] (.zb yR):=by
 refine pM Tryz.func41 (Aq (AO.Cv a) (Aq (AO.Cv b) rfl)) rfl ?_;unfold MT;refine Aa (λAx=>?_) λAx=>?_;refine Aa (λAL=>?_) λAL=>?_;refine Aa (λBg=>?_) λBg=>?_;refine Ah λy1 CK=>?_;let o1:LP:=[pn Ax,pn AL,pn Bg,Ag (VK CK)];refine Aa ?_ ?_;rintro rfl;refine Aa (λBu=>?_) λBu=>?_;refine CF (RA Tryz.f41 .zb) 61 [4,10,11,16,17,18,23,24,25,30,31,32,33,40,41,46,59,60] (λi0 (_:Unit)=>[(2,.ptr 0 0),(3,.ptr 1 0),(5,.zi ((i0:Nat):Int))]) (λ_=>⟨[(1,.cells (Fp b)),(0,.cells (Fp a))],2,[],0⟩) [2,3,5] [] 0 (sb (Al Tryz.f41) 116) [.code (sb (Al Tryz.f41) 15)] (o1++[pn Bu]) ?_ ?_;rintro i0 e0 ⟨⟩ j0 r B6 Ca BQ k;show LO Jj b i0 e0 =some r->_;unfold LO;refine Ah λx2 Pp=>?_;refine Ah λy3 Jb=>?_;let o2:LP:=[pb (C2 Ca),Bq (Ep .lost B6),Bq (Ep .lost Pp),Ag (jV Jb)];refine Aa ?_ ?_;rintro rfl;rintro⟨⟩;exact gM (o2++[pi BQ]) k;rintro rfl;rintro⟨⟩;exact gA o2 (.Dv k) .sc;rintro⟨⟩ YM;rintro⟨⟩;exact C7 [] .body .sc;rintro⟨⟩;exact rT (o1++[pn Bu]);rintro rfl;rintro⟨⟩;exact rT o1;rintro⟨⟩;exact rT [pn Ax,pn AL,pn Bg];rintro⟨⟩;exact rT [pn Ax,pn AL];rintro⟨⟩;exact rT [pn Ax]
def F8:Nat->Ex->Ex->Option Bool
 | 0,_,_=>none
 | qn+1,a,b=>MT (F8 qn) a b
def fS:∀qn:Nat,∀{a:Ex} {b:Ex} {yR:Bool},F8 qn a b=some yR->Pure P G 41 [.agg (Fp a),.agg (Fp b)] (.zb yR):=by
 intro qn
 induction qn with
 | zero=>exact(λh=>by simp only[F8] at h;cases h)
 | succ qn ih=>exact(λh=>bK (F8 qn) ih (by rw[F8] at h;exact h))
def K6(a:Ex)(b:Ex):Option Bool:=cA (λqn=>F8 qn a b)
def RK{a:Ex}{b:Ex}{yR:Bool}(h:K6 a b=some yR):Pure P G 41 [.agg (Fp a),.agg (Fp b)] (.zb yR):=by
 obtain⟨qn,h⟩:=Th h;exact(fS qn) h
def Km(b:(List Ex))(i0:Nat)(i1:Nat)(e1:Ex)(ZO:Bool):Option (Lp Bool Bool Bool):=cond ZO (some (.ex true)) ((b[i0]?).bind λx1=>(K6 e1 x1).bind λy2=>some (.nx y2))
def Kj(a:(List Ex))(b:(List Ex))(i0:Nat)(e0:Ex) :Option (Lp Unit Unit Bool):=(ED a.length (Au (λi y x=>Km  b i0 i y x) (λx=>x) (a.drop 0) 0 false)).bind (Eu (λ(sN:Bool)=>cond sN (some (.nx ())) (some (.rt false))) (λv=>some (.rt v)))
def Hg(a:(List Ex))(b:(List Ex)):Option Bool:=(ED b.length (Au (λi y x=>Kj  a b i y ) (λx=>()) (b.drop 0) 0 ())).bind (Eu (λ(_:Unit)=>some true) (λv=>some v))
def Pz{a:(List Ex)}{b:(List Ex)}{yR:Bool}:Hg  a b=some yR->Pure P G 62 [.sl .lost a.length (BD a),.sl .lost b.length (BD b)] (.zb yR):=by
 refine pM Tryz.func62 (Aq (AO.Bk a) (Aq (AO.Bk b) rfl)) rfl ?_;unfold Hg;refine CF (RA Tryz.f62 .zb) 35 [4,6,11,17,18,19,20,21,32,33,34] (λi0 (_:Unit)=>[(0,.sl .lost a.length (BD a)),(1,.sl .lost b.length (BD b)),(5,.zi ((i0:Nat):Int))]) (λ_=>⟨[],0,[],0⟩) [0,1,5] [] 0 (sb (Al Tryz.f62) 52) [.code (sb (Al Tryz.f62) 7)] [] ?_ ?_;rintro i0 e0 ⟨⟩ j0 r B6 Ca BQ k;show Kj  a b i0 e0 =some r->_;unfold Kj;refine CF (RA Tryz.f62 .zb) 35 [4,11,17,18,19,20,21,32,33,34] (λi1 (ZO:Bool)=>[(0,.sl .lost a.length (BD a)),(1,.sl .lost b.length (BD b)),(5,.zi ((i0:Nat):Int)),(6,.zb ZO),(7,.zi ((i1:Nat):Int))]) (λZO=>⟨[],0,[],0⟩) [7] [] 2 (sb (Al Tryz.f62) 13460) [.code (sb (Al Tryz.f62) 1683),.Px 1,.code (sb (Al Tryz.f62) 211)] [pb (C2 Ca)] ?_ ?_ (hr:=λv h=>by cases h;exact .outer (.Dv k));rintro i1 e1 ZO j1 r Uh S5 Xj k;show Km  b i0 i1 e1 ZO=some r->_;unfold Km;refine Aa ?_ ?_;rintro rfl;rintro⟨⟩;exact gE [pb (C2 S5)] k;rintro rfl;refine Ah λx1 Kn=>?_;refine Ah λy2 E7=>?_;rintro⟨⟩;exact gM [pb (C2 S5),Bq (Ep .lost Uh),Bq (Ep .lost Kn),Ag (RK E7),pi Xj] k;rintro sN Zv;refine Aa ?_ ?_;rintro rfl;rintro⟨⟩;exact gMB [pi BQ] k;rintro rfl;rintro⟨⟩;exact C7 [] (.Dv k) .sc;rintro⟨⟩ YM;rintro⟨⟩;exact C7 [] .body .sc
def EX(c:Co)(a:Int)(b:Int):Option Bool:=cond (C3 a 0) (some false) (cond (C3 b 0) (some false) (cond (Iy ((c.Ap.length:Nat):Int) a) (some false) (cond (Iy ((c.Ap.length:Nat):Int) b) (some false) ((Cn c.Ap a).bind λx1=>(Cn c.Ap b).bind λx2=>cond (Ba x1.line x2.line) (cond (Ba x1.number x2.number) (some false) (cond (Ba x1.R9 x2.R9) ((Hg x1.wh x2.wh).bind λy3=>(Hg x2.wh x1.wh).bind λy4=>cond y3 (cond y4 (cond (C3 x2.known x1.known) (some true) (some false)) (some true)) (cond y4 (some false) (cond (C3 x2.known x1.known) (some true) (some false)))) (cond (C3 x2.R9 x1.R9) (some true) (some false)))) (some false)))))
def Hk{c:Co}{a:Int}{b:Int}{yR:Bool}:EX  c a b=some yR->Pure P G 25 [.agg (Ko c),.zi a,.zi b] (.zb yR):=by
 refine pM Tryz.func25 (Aq (Cj.Cv c) (Aq rfl (Aq rfl rfl))) rfl ?_;unfold EX;refine Aa (λAx=>?_) λAx=>?_;rintro⟨⟩;exact rT [pb Ax];let o1:LP:=[pb Ax];refine Aa (λAL=>?_) λAL=>?_;rintro⟨⟩;exact rT (o1++[pb AL]);let o2:LP:=o1++[pb AL];refine Aa (λBg=>?_) λBg=>?_;rintro⟨⟩;exact rT (o2++[pb Bg]);let o3:LP:=o2++[pb Bg];refine Aa (λBu=>?_) λBu=>?_;rintro⟨⟩;exact rT (o3++[pb Bu]);refine Ah λx1 Kn=>?_;refine Ah λx2 Pp=>?_;let o4:LP:=o3++[pb Bu,Bq (PI .lost Kn),Bq (PI .lost Pp)];refine Aa (λBA=>?_) λBA=>?_;refine Aa (λBC=>?_) λBC=>?_;rintro⟨⟩;exact rT (o4++[pn BA,pb BC]);let o5:LP:=o4++[pn BA,pb BC];refine Aa (λB7=>?_) λB7=>?_;refine Ah λy3 Jb=>?_;refine Ah λy4 OD=>?_;let o6:LP:=o5++[pn B7,Ag (Pz Jb),Ag (Pz OD),pk];refine Aa ?_ ?_;rintro rfl;refine Aa ?_ ?_;rintro rfl;refine Aa (λCX=>?_) λCX=>?_;rintro⟨⟩;exact rT (o6++[pb CX]);rintro⟨⟩;exact rT (o6++[pb CX]);rintro rfl;rintro⟨⟩;exact rT o6;rintro rfl;refine Aa ?_ ?_;rintro rfl;rintro⟨⟩;exact rT o6;rintro rfl;refine Aa (λDR=>?_) λDR=>?_;rintro⟨⟩;exact rT (o6++[pb DR]);rintro⟨⟩;exact rT (o6++[pb DR]);refine Aa (λBM=>?_) λBM=>?_;rintro⟨⟩;exact rT (o5++[pn B7,pb BM]);rintro⟨⟩;exact rT (o5++[pn B7,pb BM]);rintro⟨⟩;exact rT (o4++[pn BA])
def E3(D4:Ex->Int->Option Bool)(number:Int)(i0:Nat)(e0:Ex) :Option (Lp Unit Unit Bool):=(D4 e0 number).bind λy1=>cond y1 (some (.rt true)) (some (.nx ()))
def K0(D4:Ex->Int->Option Bool)(e:Ex)(number:Int):Option Bool:=cond (Ba e.op 3) (cond (Ba e.n number) (some true) ((ED e.kids.length (Au (λi y x=>E3 D4 number i y ) (λx=>()) (e.kids.drop 0) 0 ())).bind (Eu (λ(_:Unit)=>some false) (λv=>some v)))) ((ED e.kids.length (Au (λi y x=>E3 D4 number i y ) (λx=>()) (e.kids.drop 0) 0 ())).bind (Eu (λ(_:Unit)=>some false) (λv=>some v)))
def VN(D4:Ex->Int->Option Bool)(Kl:∀{e:Ex} {number:Int} {yR:Bool},D4 e number=some yR->Pure P G 91 [.agg (Fp e),.zi number] (.zb yR)){e:Ex}{number:Int}{yR:Bool}:K0 D4 e number=some yR->Pure P G 91 [.agg (Fp e),.zi number] (.zb yR):=by
 refine pM Tryz.func91 (Aq (AO.Cv e) (Aq rfl rfl)) rfl ?_;unfold K0;refine Aa (λAx=>?_) λAx=>?_;refine Aa (λAL=>?_) λAL=>?_;rintro⟨⟩;exact rT [pb Ax,pb AL];refine CF (RA Tryz.f91 .zb) 29 [4,8,9,13,14,19,28] (λi0 (_:Unit)=>[(1,.zi number),(2,.ptr 0 0),(5,.zi ((i0:Nat):Int))]) (λ_=>⟨[(0,.cells (Fp e))],1,[],0⟩) [1,2,5] [] 0 (sb (Al Tryz.f91) 116) [.code (sb (Al Tryz.f91) 15)] [pb Ax,pb AL] ?_ ?_;rintro i0 e0 ⟨⟩ j0 r B6 Ca BQ k;show E3 D4 number i0 e0 =some r->_;unfold E3;refine Ah λy1 CK=>?_;refine Aa ?_ ?_;rintro rfl;rintro⟨⟩;exact gA [pb (C2 Ca),Bq (Ep .lost B6),Ag (Kl CK)] (.Dv k) .sc;rintro rfl;rintro⟨⟩;exact gM [pb (C2 Ca),Bq (Ep .lost B6),Ag (Kl CK),pi BQ] k;rintro⟨⟩ OV;rintro⟨⟩;exact C7 [] .body .sc;refine CF (RA Tryz.f91 .zb) 29 [4,8,9,13,14,19,28] (λi0 (_:Unit)=>[(1,.zi number),(2,.ptr 0 0),(5,.zi ((i0:Nat):Int))]) (λ_=>⟨[(0,.cells (Fp e))],1,[],0⟩) [1,2,5] [] 0 (sb (Al Tryz.f91) 116) [.code (sb (Al Tryz.f91) 15)] [pb Ax] ?_ ?_;rintro i0 e0 ⟨⟩ j0 r B6 Ca BQ k;show E3 D4 number i0 e0 =some r->_;unfold E3;refine Ah λy1 CK=>?_;refine Aa ?_ ?_;rintro rfl;rintro⟨⟩;exact gA [pb (C2 Ca),Bq (Ep .lost B6),Ag (Kl CK)] (.Dv k) .sc;rintro rfl;rintro⟨⟩;exact gM [pb (C2 Ca),Bq (Ep .lost B6),Ag (Kl CK),pi BQ] k;rintro⟨⟩ Zv;rintro⟨⟩;exact C7 [] .body .sc
def EP:Nat->Ex->Int->Option Bool
 | 0,_,_=>none
 | qn+1,e,number=>K0 (EP qn) e number
def W8:∀qn:Nat,∀{e:Ex} {number:Int} {yR:Bool},EP qn e number=some yR->Pure P G 91 [.agg (Fp e),.zi number] (.zb yR):=by
 intro qn
 induction qn with
 | zero=>exact(λh=>by simp only[EP] at h;cases h)
 | succ qn ih=>exact(λh=>VN (EP qn) ih (by rw[EP] at h;exact h))
def KZ(e:Ex)(number:Int):Option Bool:=cA (λqn=>EP qn e number)
def NA{e:Ex}{number:Int}{yR:Bool}(h:KZ e number=some yR):Pure P G 91 [.agg (Fp e),.zi number] (.zb yR):=by
 obtain⟨qn,h⟩:=Th h;exact(W8 qn) h
def Mb(x2:Ar)(i0:Nat)(e0:Ex) :Option (Lp Unit Unit Bool):=(KZ e0 x2.number).bind λy5=>cond y5 (some (.rt true)) (some (.nx ()))
def Ma(x2:Ar)(i1:Nat)(e1:Int) :Option (Lp Unit Unit Bool):=cond (Ba e1 x2.number) (some (.rt true)) (some (.nx ()))
def IM(c:Co)(a:Int)(b:Int):Option Bool:=(Cn c.Ap a).bind λx1=>(Cn c.Ap b).bind λx2=>(KZ x1.am x2.number).bind λy3=>cond y3 (some true) ((EX c b a).bind λy4=>cond y4 (some true) ((ED x1.wh.length (Au (λi y x=>Mb  x2 i y ) (λx=>()) (x1.wh.drop 0) 0 ())).bind (Eu (λ(_:Unit)=>(ED x1.un.length (Au (λi y x=>Ma  x2 i y ) (λx=>()) (x1.un.drop 0) 0 ())).bind (Eu (λ(_:Unit)=>some false) (λv=>some v))) (λv=>some v))))
def NO{c:Co}{a:Int}{b:Int}{yR:Bool}:IM  c a b=some yR->Pure P G 53 [.agg (Ko c),.zi a,.zi b] (.zb yR):=by
 refine pM Tryz.func53 (Aq (Cj.Cv c) (Aq rfl (Aq rfl rfl))) rfl ?_;unfold IM;refine Ah λx1 Kn=>?_;refine Ah λx2 Pp=>?_;refine Ah λy3 Jb=>?_;let o1:LP:=[Bq (PI .lost Kn),Bq (PI .lost Pp),Ag (NA Jb)];refine Aa ?_ ?_;rintro rfl;rintro⟨⟩;exact rT o1;rintro rfl;refine Ah λy4 OD=>?_;refine Aa ?_ ?_;rintro rfl;rintro⟨⟩;exact rT (o1++[Ag (Hk OD)]);rintro rfl;refine CF (RA Tryz.f53 .zb) 60 [6,25,26,30,31,36,45,50,59] (λi0 (_:Unit)=>[(7,.ptr 1 0),(8,.zi x2.number),(9,.zi ((i0:Nat):Int))]) (λ_=>⟨[(1,.cells (It x1)),(0,.cells (Ko c))],2,[],0⟩) [9] [] 0 (sb (Al Tryz.f53) 500) [.code (sb (Al Tryz.f53) 63)] (o1++[Ag (Hk OD)]) ?_ ?_;rintro i0 e0 ⟨⟩ j0 r B6 Ca BQ k;show Mb  x2 i0 e0 =some r->_;unfold Mb;refine Ah λy5 Lb=>?_;refine Aa ?_ ?_;rintro rfl;rintro⟨⟩;exact gA [pb (C2 Ca),Bq (Ep .lost B6),Ag (NA Lb)] (.Dv k) .sc;rintro rfl;rintro⟨⟩;exact gM [pb (C2 Ca),Bq (Ep .lost B6),Ag (NA Lb),pi BQ] k;rintro⟨⟩ aol;refine ZX (RA Tryz.f53 .zb) 60 [6,25,26,30,31,36,45,50,59] (λi1 (_:Unit)=>[(7,.ptr 1 0),(8,.zi x2.number),(10,.zi ((i1:Nat):Int))]) (λ_=>⟨[(1,.cells (It x1)),(0,.cells (Ko c))],2,[],0⟩) [7,8,10] [] 2 (sb (Al Tryz.f53) 1012) [.code (sb (Al Tryz.f53) 127)] [] ?_ ?_;rintro i1 e1 ⟨⟩ j1 r Uh S5 Xj k;show Ma  x2 i1 e1 =some r->_;unfold Ma;refine Aa (λAx=>?_) λAx=>?_;rintro⟨⟩;exact gA [pb (C2 S5),Bq (XQ .lost Uh),pb Ax] (.Dv k) .sc;rintro⟨⟩;exact gM [pb (C2 S5),Bq (XQ .lost Uh),pb Ax,pi Xj] k;rintro⟨⟩ af0;rintro⟨⟩;exact C7 [] .body .sc
def Nc(c:Co)(i0:Nat)(i1:Nat)(e1:Ar)(Vv:(List Bool)):Option (Lp (List Bool) (List Bool) ((List Int)×Bool)):=(K5 c.Ap.length ((i0:Nat):Int)).bind λk4=>(IM c ((i0:Nat):Int) ((i1:Nat):Int)).bind λy5=>JB (Vv.length+1) (some (.nx (Vv++[y5])))
def NR(c:Co)(i0:Nat)(e0:Ar)(ab1:(List (Option (List Bool)))):Option (Lp (List (Option (List Bool))) (List (Option (List Bool))) ((List Int)×Bool)):=(foc ab1 i0).bind λ(p3a,p3b)=>(ED c.Ap.length (Au (λi y x=>Nc  c i0 i y x) (λx=>x) (c.Ap.drop 0) 0 [])).bind (Eu (λ(Y8:(List Bool))=>some (.nx (p3a++some Y8::p3b))) (λv=>some (.rt v)))
def Gj(c:Co)(J1:(List (Option (List Bool))))(LR:(List Bool))(i3:Nat)(i4:Nat)(e4:Ar)(Nx:Bool):Option (Lp Bool Bool ((List Int)×Bool)):=cond Nx ((LR[i4]?).bind λx20=>cond x20 (some (.nx true)) ((K5 c.Ap.length ((i3:Nat):Int)).bind λk21=>((J1[k21]?).join).bind λx22=>(x22[i4]?).bind λx23=>cond x23 (some (.nx false)) (some (.nx true)))) (some (.ex false))
def NI(c:Co)(J1:(List (Option (List Bool))))(LR:(List Bool))(i3:Nat)(e3:Ar)(NE:Int):Option (Lp Int Int ((List Int)×Bool)):=cond (C3 NE 0) ((LR[i3]?).bind λx19=>cond x19 ((ED c.Ap.length (Au (λi y x=>Gj  c J1 LR i3 i y x) (λx=>x) (c.Ap.drop 0) 0 false)).bind (Eu (λ(hO:Bool)=>cond hO (some (.nx ((i3:Nat):Int))) (some (.nx NE))) (λv=>some (.rt v)))) ((ED c.Ap.length (Au (λi y x=>Gj  c J1 LR i3 i y x) (λx=>x) (c.Ap.drop 0) 0 true)).bind (Eu (λ(dK:Bool)=>cond dK (some (.nx ((i3:Nat):Int))) (some (.nx NE))) (λv=>some (.rt v))))) (some (.ex NE))
def M7(c:Co)(J1:(List (Option (List Bool))))(O7:(List Int))(LR:(List Bool)):Option (Lp ((List Int)×(List Bool)) ((List Int)×(List Bool)) ((List Int)×Bool)):=cond (C3 ((O7.length:Nat):Int) ((c.Ap.length:Nat):Int)) ((ED c.Ap.length (Au (λi y x=>NI  c J1 LR i y x) (λx=>x) (c.Ap.drop 0) 0 (-1))).bind (Eu (λ(Qi:Int)=>cond (C3 Qi 0) (some (.rt ([],false))) ((K5 c.Ap.length Qi).bind λk27=>(LR[k27]?).bind λx28=>JB (O7.length+1) (some (.nx ((O7++[Qi]),(LR.set k27 true)))))) (λv=>some (.rt v)))) (some (.ex (O7,LR)))
def Ix(c:Co):Option ((List Int)×Bool):=(Hf c).bind λy1=>cond y1 (rF (c.Ap.length) ((ED c.Ap.length (Au (λi y x=>NR  c i y x) (λx=>x) (c.Ap.drop 0) 0 (List.replicate c.Ap.length none))).bind (Eu (λ(J1:(List (Option (List Bool))))=>(pK (λx=>M7  c J1 x.1 x.2) ([],(List.replicate c.Ap.length false))).bind (Eu (λ((Yl,agw):((List Int)×(List Bool)))=>some (Yl,true)) (λv=>some v))) (λv=>some v)))) (some ([],true))
def Zp{c:Co}{yR:((List Int)×Bool)}:Ix  c=some yR->Pure P G 19 [.agg (Ko c)] (.Bj [.sl .lost yR.1.length (rows G8 yR.1),.zb yR.2]):=by
 refine pM Tryz.func19 (Aq (Cj.Cv c) rfl) (Aq (BU.Bk yR.1) (Aq rfl rfl)) ?_;unfold Ix;refine Ah λy1 CK=>?_;refine Aa ?_ ?_;rintro rfl;refine ae1 λjJ=>?_;refine CF (RA Tryz.f19 λv=>(.Bj [.sl .lost v.1.length (rows G8 v.1),.zb v.2])) 104 [3,11,14,15,27,33,45,53,57,58,60,61,67,68,72,73,74,75,81,82,89,90,91,92,95] (λi0 (ab1:(List (Option (List Bool))))=>[(1,.ptr 0 0),(4,.sl .full 0 []),(5,.G2 1 0 c.Ap.length),(6,.G2 2 0 c.Ap.length),(7,.zi ((i0:Nat):Int))]) (λab1=>⟨[(2,(.cells (rows TU ab1))),(1,(.cells (rows Vx (List.replicate c.Ap.length false)))),(0,.cells (Ko c))],3,[],0⟩) [1,7] [] 0 (sb (Al Tryz.f19) 1012) [.code (sb (Al Tryz.f19) 127)] [Ag (IZ CK),pmb (aqh (n:=c.Ap.length) jJ),pmb (an8 (n:=c.Ap.length) jJ)] ?_ ?_;rintro i0 e0 ab1 j0 r B6 Ca BQ k;show NR  c i0 e0 ab1=some r->_;unfold NR;refine Cb λp3a p3b hp3=>?_;refine CF (RA Tryz.f19 λv=>(.Bj [.sl .lost v.1.length (rows G8 v.1),.zb v.2])) 104 [3,11,14,15,27,33,45,53,57,58,60,61,67,68,72,73,74,75,81,82,89,90,91,92,95] (λi1 (Vv:(List Bool))=>[(1,.ptr 0 0),(4,.sl .full 0 []),(5,.G2 1 0 c.Ap.length),(6,.G2 2 0 c.Ap.length),(7,.zi ((i0:Nat):Int)),(8,.zi ((i1:Nat):Int))]) (λVv=>⟨[(2,(.cells (Uq (rows Vx) p3a (.sl (.row 0 1) Vv.length (rows Vx Vv)) p3b))),(1,(.cells (rows Vx (List.replicate c.Ap.length false)))),(0,.cells (Ko c))],3,[(0,Vv.length)],1⟩) [8] [] 2 (sb (Al Tryz.f19) 64804) [.Px 1,.code (sb (Al Tryz.f19) 4051)] [pb (C2 Ca),pfo 2 (agH (nr:=0) hp3)] ?_ ?_ (hr:=λv h=>by cases h;exact .outer (.Dv k));rintro i1 e1 Vv j1 r Uh S5 Xj k;show Nc  c i0 i1 e1 Vv=some r->_;unfold Nc;refine Ah λk4 hk4=>?_;refine Ah λy5 Lb=>?_;refine Hw λhl6=>?_;rintro⟨⟩;exact gM [pb (C2 S5),pza,Bq (ZG (id:=2) hk4),sA (apG (a:=.sl (.row 0 1) Vv.length (rows Vx Vv)) (q:=p3b) (zP hp3 hk4)),Ag (NO Lb),Ly (aqy (.row 0 1) Vv [y5] (o:=.full) (n:=1) (ns:=[.zb y5]) (K1.wn [y5] (.r .nil)) rfl rfl (by simp) (by simpa using hl6)),Bq (ZG (id:=2) hk4),psb (ara (a:=.sl (.row 0 1) Vv.length (rows Vx Vv)) (q:=p3b) (zP hp3 hk4) (v:=.sl (.row 0 1) ((Vv++[y5]).length) (rows Vx (Vv++[y5])))),pi Xj] k
 rintro Y8 af0;rintro⟨⟩;exact gNB [fp (.sl .full 0 []) (CI rfl)] [bw (.cells (Uq (rows Vx) p3a (.sl (.row 0 1) Y8.length (rows Vx Y8)) p3b)) (.cells (rows TU (p3a++some Y8::p3b))) (arV K1 p3a Y8 p3b),bp (K1.Aq (List.replicate c.Ap.length false)),bp (Cj.pl c)] [pi BQ] k;rintro J1 ae0;refine am5 (λQ v=>Ws P Tryz.f19 0 Q (.Bj [.sl .lost v.1.length (rows G8 v.1),.zb v.2])) (λ((O7,LR):((List Int)×(List Bool))) (j2:List Value)=>fr 104 [(4,.sl (.row 0 1) O7.length (rows G8 O7)),(5,.G2 1 0 c.Ap.length),(6,.G2 2 0 c.Ap.length)] [3,11,14,15,27,33,45,53,57,58,60,61,67,68,72,73,74,75,81,82,89,90,91,92,95] j2) (λ((O7,LR):((List Int)×(List Bool)))=>⟨[(2,(.cells (rows TU J1))),(1,(.cells (rows Vx LR))),(0,.cells (Ko c))],3,[(0,O7.length)],1⟩) (λ((O7,LR):((List Int)×(List Bool))) (jx:List Value)=>fr 104 [(4,.sl (.row 0 1) O7.length (rows G8 O7))] [3,11,14,15,27,33,45,53,57,58,60,61,67,68,72,73,74,75,81,82,89,90,91,92,95] jx) (λ((O7,LR):((List Int)×(List Bool)))=>⟨[(2,(.cells (rows TU J1))),(1,(.cells (rows Vx LR))),(0,.cells (Ko c))],3,[(0,O7.length)],1⟩) ae0 (pY [.t 4 1] 4 (sb (Al Tryz.f19) 1016) [.code (sb (Al Tryz.f19) 255)] (bL 300 []) (by kernel_rfl)) ?_ ?_ (λv h=>by cases h;exact .outer .body);rintro⟨O7,LR⟩ j2 r k;show M7  c J1 O7 LR=some r->_;unfold M7;refine Aa (λBu=>?_) λBu=>?_;refine CF (RA Tryz.f19 λv=>(.Bj [.sl .lost v.1.length (rows G8 v.1),.zb v.2])) 104 [3,11,14,15,27,33,45,53,57,58,60,61,67,68,72,73,74,75,81,82,89,90,91,92,95] (λi3 (NE:Int)=>[(4,.sl (.row 0 1) O7.length (rows G8 O7)),(5,.G2 1 0 c.Ap.length),(6,.G2 2 0 c.Ap.length),(9,.zi NE),(10,.zi ((i3:Nat):Int))]) (λNE=>⟨[(2,(.cells (rows TU J1))),(1,(.cells (rows Vx LR))),(0,.cells (Ko c))],3,[(0,O7.length)],1⟩) [10] [] 6 (sb (Al Tryz.f19) 130132) [.code (sb (Al Tryz.f19) 16267),.Px 5] [pb Bu] ?_ ?_ (hr:=λv h=>by cases h;exact .outer (.Dv k));rintro i3 e3 NE j3 r he3 hi3 mi3 k;show NI  c J1 LR i3 e3 NE=some r->_;unfold NI;refine Aa (λBA=>?_) λBA=>?_;refine Ah λx19 aof=>?_;let o1:LP:=[pb (C2 hi3),pb BA,Bq (aem (id:=1) (n:=c.Ap.length) (i:=i3) (by have:=TM (C2 hi3);omega)),sA (afs aof)];refine Aa ?_ ?_;rintro rfl;refine CF (RA Tryz.f19 λv=>(.Bj [.sl .lost v.1.length (rows G8 v.1),.zb v.2])) 104 [3,14,15,27,33,45,53,57,58,60,61,67,68,72,73,74,75,81,82,89,90,91,92,95] (λi4 (Nx:Bool)=>[(4,.sl (.row 0 1) O7.length (rows G8 O7)),(5,.G2 1 0 c.Ap.length),(6,.G2 2 0 c.Ap.length),(9,.zi NE),(10,.zi ((i3:Nat):Int)),(11,.zb Nx),(12,.zi ((i4:Nat):Int))]) (λNx=>⟨[(2,(.cells (rows TU J1))),(1,(.cells (rows Vx LR))),(0,.cells (Ko c))],3,[(0,O7.length)],1⟩) [12] [] 8 (sb (Al Tryz.f19) 33313940) [.code (sb (Al Tryz.f19) 4164243),.Px 7,.code (sb (Al Tryz.f19) 520531)] o1 ?_ ?_ (hr:=λv h=>by cases h;exact .outer (.Dv k));rintro i4 e4 Nx j4 r he4 hi4 mi4 k;show Gj  c J1 LR i3 i4 e4 Nx=some r->_;unfold Gj;refine Aa ?_ ?_;rintro rfl;refine Ah λx20 abS=>?_;let o2:LP:=[pb (C2 hi4),Bq (aem (id:=1) (n:=c.Ap.length) (i:=i4) (by have:=TM (C2 hi4);omega)),sA (afs abS)];refine Aa ?_ ?_;rintro rfl;rintro⟨⟩;exact gM (o2++[pi mi4]) k;rintro rfl;refine Ah λk21 aeJ=>?_;refine Ah λx22 zE=>?_;refine Ah λx23 yO=>?_;refine Aa ?_ ?_;rintro rfl;rintro⟨⟩;exact gM (o2++[Bq (ZG (id:=2) aeJ),sA (aaH zE),Bq (ajc .lost yO),pi mi4]) k;rintro rfl;rintro⟨⟩;exact gM (o2++[Bq (ZG (id:=2) aeJ),sA (aaH zE),Bq (ajc .lost yO),pi mi4]) k;rintro rfl;rintro⟨⟩;exact gE [pb (C2 hi4)] k;rintro hO akm;refine Aa ?_ ?_;rintro rfl;rintro⟨⟩;exact gMB [pi mi3] k;rintro rfl;rintro⟨⟩;exact gMB [pi mi3] k;rintro rfl;refine CF (RA Tryz.f19 λv=>(.Bj [.sl .lost v.1.length (rows G8 v.1),.zb v.2])) 104 [3,14,15,27,33,45,53,57,58,60,61,67,68,72,73,74,75,81,82,89,90,91,92,95] (λi4 (Nx:Bool)=>[(4,.sl (.row 0 1) O7.length (rows G8 O7)),(5,.G2 1 0 c.Ap.length),(6,.G2 2 0 c.Ap.length),(9,.zi NE),(10,.zi ((i3:Nat):Int)),(11,.zb Nx),(12,.zi ((i4:Nat):Int))]) (λNx=>⟨[(2,(.cells (rows TU J1))),(1,(.cells (rows Vx LR))),(0,.cells (Ko c))],3,[(0,O7.length)],1⟩) [12] [] 8 (sb (Al Tryz.f19) 33313940) [.code (sb (Al Tryz.f19) 4164243),.Px 7,.code (sb (Al Tryz.f19) 520531)] o1 ?_ ?_ (hr:=λv h=>by cases h;exact .outer (.Dv k));rintro i4 e4 Nx j4 r he4 hi4 mi4 k;show Gj  c J1 LR i3 i4 e4 Nx=some r->_;unfold Gj;refine Aa ?_ ?_;rintro rfl;refine Ah λx20 abS=>?_;let o3:LP:=[pb (C2 hi4),Bq (aem (id:=1) (n:=c.Ap.length) (i:=i4) (by have:=TM (C2 hi4);omega)),sA (afs abS)];refine Aa ?_ ?_;rintro rfl;rintro⟨⟩;exact gM (o3++[pi mi4]) k;rintro rfl;refine Ah λk21 aeJ=>?_;refine Ah λx22 zE=>?_;refine Ah λx23 yO=>?_;refine Aa ?_ ?_;rintro rfl;rintro⟨⟩;exact gM (o3++[Bq (ZG (id:=2) aeJ),sA (aaH zE),Bq (ajc .lost yO),pi mi4]) k;rintro rfl;rintro⟨⟩;exact gM (o3++[Bq (ZG (id:=2) aeJ),sA (aaH zE),Bq (ajc .lost yO),pi mi4]) k;rintro rfl;rintro⟨⟩;exact gE [pb (C2 hi4)] k;rintro dK atN;refine Aa ?_ ?_;rintro rfl;rintro⟨⟩;exact gMB [pi mi3] k;rintro rfl;rintro⟨⟩;exact gMB [pi mi3] k;rintro⟨⟩;exact gE [pb (C2 hi3),pb BA] k;rintro Qi atO;refine Aa (λBC=>?_) λBC=>?_;rintro⟨⟩;exact C7 (v:=.Bj [.sl .full 0 [],.zb false]) [pb BC] (.Dv k) (.wn (.u (.z (.r .nil)) .nil) (Aq (BU.Bk []) (Aq rfl rfl)));refine Ah λk27 ar2=>?_;refine Ah λx28 atI=>?_;refine Hw λan6=>?_;rintro⟨⟩;exact gMB [pb BC,Bq (alE (id:=1) ar2),psb (aqW atI true),Ly (Z4 (.row 0 1) O7 [Qi] (o:=.full) (n:=1) (ns:=[.zi Qi]) (BU.wn [Qi] (.r .nil)) rfl rfl (by simp) (by simpa using an6))] k
 rintro⟨⟩;exact gE [pb Bu] k;rintro⟨Yl,agw⟩ atY;dsimp only;refine sJ ?_;rintro rfl;exact C7 (v:=.Bj [.sl (.row 0 1) Yl.length (rows G8 Yl),.zb true]) [] .body (.wn (.u (.s rfl (.r .nil)) .nil) (Aq (BU.Bk Yl) (Aq rfl rfl)));rintro rfl;refine sJ ?_;rintro rfl;exact gA (v:=.Bj [.sl .full 0 [],.zb true]) [Ag (IZ CK)] .body (.wn (.u (.z (.r .nil)) .nil) (Aq (BU.Bk []) (Aq rfl rfl)))
def J9(b:(List Int))(i0:Nat)(e0:Int) :Option (Lp Unit Unit Bool):=(b[i0]?).bind λx1=>cond (Ba e0 x1) (some (.nx ())) (some (.rt false))
def AW(a:(List Int))(b:(List Int)):Option Bool:=cond (Ba ((a.length:Nat):Int) ((b.length:Nat):Int)) ((ED a.length (Au (λi y x=>J9  b i y ) (λx=>()) (a.drop 0) 0 ())).bind (Eu (λ(_:Unit)=>some true) (λv=>some v))) (some false)
def AT{a:(List Int)}{b:(List Int)}{yR:Bool}:AW  a b=some yR->Pure P G 26 [.sl .lost a.length (rows G8 a),.sl .lost b.length (rows G8 b)] (.zb yR):=by
 refine pM Tryz.func26 (Aq (BU.Bk a) (Aq (BU.Bk b) rfl)) rfl ?_;unfold AW;refine Aa (λAx=>?_) λAx=>?_;refine CF (RA Tryz.f26 .zb) 26 [4,10,14,25] (λi0 (_:Unit)=>[(0,.sl .lost a.length (rows G8 a)),(1,.sl .lost b.length (rows G8 b)),(5,.zi ((i0:Nat):Int))]) (λ_=>⟨[],0,[],0⟩) [0,1,5] [] 0 (sb (Al Tryz.f26) 116) [.code (sb (Al Tryz.f26) 15)] [pn Ax] ?_ ?_;rintro i0 e0 ⟨⟩ j0 r B6 Ca BQ k;show J9  b i0 e0 =some r->_;unfold J9;refine Ah λx1 Kn=>?_;refine Aa (λAL=>?_) λAL=>?_;rintro⟨⟩;exact gM [pb (C2 Ca),Bq (XQ .lost B6),Bq (XQ .lost Kn),pn AL,pi BQ] k;rintro⟨⟩;exact gA [pb (C2 Ca),Bq (XQ .lost B6),Bq (XQ .lost Kn),pn AL] (.Dv k) .sc;rintro⟨⟩ OV;rintro⟨⟩;exact C7 [] .body .sc;rintro⟨⟩;exact rT [pn Ax]
def Js(b:(List Ex))(i0:Nat)(e0:Ex) :Option (Lp Unit Unit Bool):=(b[i0]?).bind λx1=>(K6 e0 x1).bind λy2=>cond y2 (some (.nx ())) (some (.rt false))
def Ie(a:(List Ex))(b:(List Ex)):Option Bool:=cond (Ba ((a.length:Nat):Int) ((b.length:Nat):Int)) ((ED a.length (Au (λi y x=>Js  b i y ) (λx=>()) (a.drop 0) 0 ())).bind (Eu (λ(_:Unit)=>some true) (λv=>some v))) (some false)
def Us{a:(List Ex)}{b:(List Ex)}{yR:Bool}:Ie  a b=some yR->Pure P G 71 [.sl .lost a.length (BD a),.sl .lost b.length (BD b)] (.zb yR):=by
 refine pM Tryz.func71 (Aq (AO.Bk a) (Aq (AO.Bk b) rfl)) rfl ?_;unfold Ie;refine Aa (λAx=>?_) λAx=>?_;refine CF (RA Tryz.f71 .zb) 27 [4,10,14,25,26] (λi0 (_:Unit)=>[(0,.sl .lost a.length (BD a)),(1,.sl .lost b.length (BD b)),(5,.zi ((i0:Nat):Int))]) (λ_=>⟨[],0,[],0⟩) [0,1,5] [] 0 (sb (Al Tryz.f71) 116) [.code (sb (Al Tryz.f71) 15)] [pn Ax] ?_ ?_;rintro i0 e0 ⟨⟩ j0 r B6 Ca BQ k;show Js  b i0 e0 =some r->_;unfold Js;refine Ah λx1 Kn=>?_;refine Ah λy2 E7=>?_;let o1:LP:=[pb (C2 Ca),Bq (Ep .lost B6),Bq (Ep .lost Kn),Ag (RK E7)];refine Aa ?_ ?_;rintro rfl;rintro⟨⟩;exact gM (o1++[pi BQ]) k;rintro rfl;rintro⟨⟩;exact gA o1 (.Dv k) .sc;rintro⟨⟩ Zv;rintro⟨⟩;exact C7 [] .body .sc;rintro⟨⟩;exact rT [pn Ax]
def GN(a:Ar)(b:Ar):Option Bool:=cond (Ba a.number b.number) (cond (Ba a.line b.line) (cond (Ba a.R9 b.R9) (cond (Ba a.fr b.fr) (cond (Ba a.to b.to) (cond (Ba a.known b.known) ((Ie a.wh b.wh).bind λy1=>cond y1 ((AW a.un b.un).bind λy2=>cond y2 ((K6 a.am b.am).bind λy3=>some y3) (some false)) (some false)) (some false)) (some false)) (some false)) (some false)) (some false)) (some false)
def Tq{a:Ar}{b:Ar}{yR:Bool}:GN  a b=some yR->Pure P G 34 [.agg (It a),.agg (It b)] (.zb yR):=by
 refine pM Tryz.func34 (Aq (Cr.Cv a) (Aq (Cr.Cv b) rfl)) rfl ?_;unfold GN;refine Aa (λAx=>?_) λAx=>?_;refine Aa (λAL=>?_) λAL=>?_;let o1:LP:=[pb Ax,pb AL];refine Aa (λBg=>?_) λBg=>?_;refine Aa (λBu=>?_) λBu=>?_;refine Aa (λBA=>?_) λBA=>?_;refine Aa (λBC=>?_) λBC=>?_;refine Ah λy1 CK=>?_;let o2:LP:=o1++[pb Bg,pb Bu,pb BA,pb BC,Ag (Us CK)];refine Aa ?_ ?_;rintro rfl;refine Ah λy2 E7=>?_;refine Aa ?_ ?_;rintro rfl;refine Ah λy3 Jb=>?_;rintro⟨⟩;exact rT (o2++[Ag (AT E7),Ag (RK Jb)]);rintro rfl;rintro⟨⟩;exact rT (o2++[Ag (AT E7)]);rintro rfl;rintro⟨⟩;exact rT o2;rintro⟨⟩;exact rT (o1++[pb Bg,pb Bu,pb BA,pb BC]);rintro⟨⟩;exact rT (o1++[pb Bg,pb Bu,pb BA]);rintro⟨⟩;exact rT (o1++[pb Bg,pb Bu]);rintro⟨⟩;exact rT (o1++[pb Bg]);rintro⟨⟩;exact rT [pb Ax,pb AL];rintro⟨⟩;exact rT [pb Ax]
def Jk(b:(List Dc))(i0:Nat)(e0:Dc) :Option (Lp Unit Unit Bool):=(b[i0]?).bind λx1=>cond (Zr e0 x1) (some (.nx ())) (some (.rt false))
def Gz(a:(List Dc))(b:(List Dc)):Option Bool:=cond (Ba ((a.length:Nat):Int) ((b.length:Nat):Int)) ((ED a.length (Au (λi y x=>Jk  b i y ) (λx=>()) (a.drop 0) 0 ())).bind (Eu (λ(_:Unit)=>some true) (λv=>some v))) (some false)
def H5{a:(List Dc)}{b:(List Dc)}{yR:Bool}:Gz  a b=some yR->Pure P G 54 [.sl .lost a.length (rows Dk a),.sl .lost b.length (rows Dk b)] (.zb yR):=by
 refine pM Tryz.func54 (Aq (Bt.Bk a) (Aq (Bt.Bk b) rfl)) rfl ?_;unfold Gz;refine Aa (λAx=>?_) λAx=>?_;refine CF (RA Tryz.f54 .zb) 26 [4,10,14,25] (λi0 (_:Unit)=>[(0,.sl .lost a.length (rows Dk a)),(1,.sl .lost b.length (rows Dk b)),(5,.zi ((i0:Nat):Int))]) (λ_=>⟨[],0,[],0⟩) [0,1,5] [] 0 (sb (Al Tryz.f54) 116) [.code (sb (Al Tryz.f54) 15)] [pn Ax] ?_ ?_;rintro i0 e0 ⟨⟩ j0 r B6 Ca BQ k;show Jk  b i0 e0 =some r->_;unfold Jk;refine Ah λx1 Kn=>?_;refine Aa (λAL=>?_) λAL=>?_;rintro⟨⟩;exact gM [pb (C2 Ca),Bq (X3 .lost B6),Bq (X3 .lost Kn),Dx (ajX AL (.tmp 20) (.tmp 24)),pi BQ] k;rintro⟨⟩;exact gA [pb (C2 Ca),Bq (X3 .lost B6),Bq (X3 .lost Kn),Dx (ajX AL (.tmp 20) (.tmp 24))] (.Dv k) .sc;rintro⟨⟩ OV;rintro⟨⟩;exact C7 [] .body .sc;rintro⟨⟩;exact rT [pn Ax]
def JA(b:Co)(i0:Nat)(e0:Ar) :Option (Lp Unit Unit Bool):=(b.Ap[i0]?).bind λx3=>(GN e0 x3).bind λy4=>cond y4 (some (.nx ())) (some (.rt false))
def Ef(a:Co)(b:Co):Option Bool:=(Gz a.facts b.facts).bind λy1=>cond y1 ((Gz a.lines b.lines).bind λy2=>cond y2 (cond (Ba ((a.Ap.length:Nat):Int) ((b.Ap.length:Nat):Int)) ((ED a.Ap.length (Au (λi y x=>JA  b i y ) (λx=>()) (a.Ap.drop 0) 0 ())).bind (Eu (λ(_:Unit)=>some true) (λv=>some v))) (some false)) (some false)) (some false)
def UR{a:Co}{b:Co}{yR:Bool}:Ef  a b=some yR->Pure P G 20 [.agg (Ko a),.agg (Ko b)] (.zb yR):=by
 refine pM Tryz.func20 (Aq (Cj.Cv a) (Aq (Cj.Cv b) rfl)) rfl ?_;unfold Ef;refine Ah λy1 CK=>?_;let o1:LP:=[Ag (H5 CK)];refine Aa ?_ ?_;rintro rfl;refine Ah λy2 E7=>?_;refine Aa ?_ ?_;rintro rfl;refine Aa (λAx=>?_) λAx=>?_;refine CF (RA Tryz.f20 .zb) 48 [4,10,11,12,17,18,19,20,27,28,33,46,47] (λi0 (_:Unit)=>[(2,.ptr 0 0),(3,.ptr 1 0),(5,.zi ((i0:Nat):Int))]) (λ_=>⟨[(1,.cells (Ko b)),(0,.cells (Ko a))],2,[],0⟩) [2,3,5] [] 0 (sb (Al Tryz.f20) 116) [.code (sb (Al Tryz.f20) 15)] (o1++[Ag (H5 E7),pn Ax]) ?_ ?_;rintro i0 e0 ⟨⟩ j0 r B6 Ca BQ k;show JA  b i0 e0 =some r->_;unfold JA;refine Ah λx3 lJ=>?_;refine Ah λy4 OD=>?_;let o2:LP:=[pb (C2 Ca),Bq (bD .lost B6),Bq (bD .lost lJ),Ag (Tq OD)];refine Aa ?_ ?_;rintro rfl;rintro⟨⟩;exact gM (o2++[pi BQ]) k;rintro rfl;rintro⟨⟩;exact gA o2 (.Dv k) .sc;rintro⟨⟩ abz;rintro⟨⟩;exact C7 [] .body .sc;rintro⟨⟩;exact rT (o1++[Ag (H5 E7),pn Ax]);rintro rfl;rintro⟨⟩;exact rT (o1++[Ag (H5 E7)]);rintro rfl;rintro⟨⟩;exact rT o1
def Jt(b:(List Dg))(i0:Nat)(e0:Dg) :Option (Lp Unit Unit Bool):=(b[i0]?).bind λx1=>cond (Y4 e0 x1) (some (.nx ())) (some (.rt false))
def Gx(a:(List Dg))(b:(List Dg)):Option Bool:=cond (Ba ((a.length:Nat):Int) ((b.length:Nat):Int)) ((ED a.length (Au (λi y x=>Jt  b i y ) (λx=>()) (a.drop 0) 0 ())).bind (Eu (λ(_:Unit)=>some true) (λv=>some v))) (some false)
def UY{a:(List Dg)}{b:(List Dg)}{yR:Bool}:Gx  a b=some yR->Pure P G 21 [.sl .lost a.length (rows CZ a),.sl .lost b.length (rows CZ b)] (.zb yR):=by
 refine pM Tryz.func21 (Aq (AP.Bk a) (Aq (AP.Bk b) rfl)) rfl ?_;unfold Gx;refine Aa (λAx=>?_) λAx=>?_;refine CF (RA Tryz.f21 .zb) 26 [4,10,14,25] (λi0 (_:Unit)=>[(0,.sl .lost a.length (rows CZ a)),(1,.sl .lost b.length (rows CZ b)),(5,.zi ((i0:Nat):Int))]) (λ_=>⟨[],0,[],0⟩) [0,1,5] [] 0 (sb (Al Tryz.f21) 116) [.code (sb (Al Tryz.f21) 15)] [pn Ax] ?_ ?_;rintro i0 e0 ⟨⟩ j0 r B6 Ca BQ k;show Jt  b i0 e0 =some r->_;unfold Jt;refine Ah λx1 Kn=>?_;refine Aa (λAL=>?_) λAL=>?_;rintro⟨⟩;exact gM [pb (C2 Ca),Bq (ajv .lost B6),Bq (ajv .lost Kn),Dx (ajY AL (.tmp 20) (.tmp 24)),pi BQ] k;rintro⟨⟩;exact gA [pb (C2 Ca),Bq (ajv .lost B6),Bq (ajv .lost Kn),Dx (ajY AL (.tmp 20) (.tmp 24))] (.Dv k) .sc;rintro⟨⟩ OV;rintro⟨⟩;exact C7 [] .body .sc;rintro⟨⟩;exact rT [pn Ax]
def D1(c:Co)(version:Int):Option (List Int):=cond (C3 version 0) (some []) (cond (Iy ((c.Ap.length:Nat):Int) version) (some []) ((G4 c).bind λy1=>cond y1 ((Ii c version).bind λy2=>some y2) (some [])))
def EJ{c:Co}{version:Int}{yR:(List Int)}:D1  c version=some yR->Pure P G 27 [.agg (Ko c),.zi version] (.sl .lost yR.length (rows G8 yR)):=by
 refine pM Tryz.func27 (Aq (Cj.Cv c) (Aq rfl rfl)) (BU.Bk yR) ?_;unfold D1;refine Aa (λAx=>?_) λAx=>?_;refine sJ ?_;rintro rfl;exact gA (v:=.sl .full 0 []) [pb Ax] .body (.wn (.z .nil) (BU.Bk []));refine Aa (λAL=>?_) λAL=>?_;refine sJ ?_;rintro rfl;exact gA (v:=.sl .full 0 []) [pb Ax,pb AL] .body (.wn (.z .nil) (BU.Bk []));refine Ah λy1 CK=>?_;refine Aa ?_ ?_;rintro rfl;refine Ah λy2 E7=>?_;refine sJ ?_;rintro rfl;exact gA [pb Ax,pb AL,Ag (I2 CK),Ag (SJ E7)] .body (.plain (BU.Bk y2));rintro rfl;refine sJ ?_;rintro rfl;exact gA (v:=.sl .full 0 []) [pb Ax,pb AL,Ag (I2 CK)] .body (.wn (.z .nil) (BU.Bk []))
def KJ(c:Co)(version:Int)(i0:Nat)(e0:Ar)(RZ:(List Int)):Option (Lp (List Int) (List Int) (List Int)):=(IM c version ((i0:Nat):Int)).bind λy3=>cond y3 (JB (RZ.length+1) (some (.nx (RZ++[((i0:Nat):Int)])))) (some (.nx RZ))
def D0(c:Co)(version:Int):Option (List Int):=cond (C3 version 0) (some []) (cond (Iy ((c.Ap.length:Nat):Int) version) (some []) ((Hf c).bind λy1=>cond y1 ((ED c.Ap.length (Au (λi y x=>KJ  c version i y x) (λx=>x) (c.Ap.drop 0) 0 [])).bind (Eu (λ(fV:(List Int))=>some fV) (λv=>some v))) (some [])))
def EI{c:Co}{version:Int}{yR:(List Int)}:D0  c version=some yR->Pure P G 28 [.agg (Ko c),.zi version] (.sl .lost yR.length (rows G8 yR)):=by
 refine pM Tryz.func28 (Aq (Cj.Cv c) (Aq rfl rfl)) (BU.Bk yR) ?_;unfold D0;refine Aa (λAx=>?_) λAx=>?_;refine sJ ?_;rintro rfl;exact gA (v:=.sl .full 0 []) [pb Ax] .body (.wn (.z .nil) (BU.Bk []));refine Aa (λAL=>?_) λAL=>?_;refine sJ ?_;rintro rfl;exact gA (v:=.sl .full 0 []) [pb Ax,pb AL] .body (.wn (.z .nil) (BU.Bk []));refine Ah λy1 CK=>?_;refine Aa ?_ ?_;rintro rfl;refine CF (RA Tryz.f28 λv=>(.sl .lost v.length (rows G8 v))) 37 [8,9,14,15,16,18,19,20,25,31] (λi0 (RZ:(List Int))=>[(1,.zi version),(2,.ptr 0 0),(5,.sl (.row 0 1) RZ.length (rows G8 RZ)),(6,.zi ((i0:Nat):Int))]) (λRZ=>⟨[(0,.cells (Ko c))],1,[(0,RZ.length)],1⟩) [1,2,6] [.t 5 1] 0 (sb (Al Tryz.f28) 244) [.code (sb (Al Tryz.f28) 31)] [pb Ax,pb AL,Ag (IZ CK)] ?_ ?_;rintro i0 e0 RZ j0 r B6 Ca BQ k;show KJ  c version i0 e0 RZ=some r->_;unfold KJ;refine Ah λy3 Jb=>?_;refine Aa ?_ ?_;rintro rfl;refine Hw λhl4=>?_;rintro⟨⟩;exact gM [pb (C2 Ca),Ag (NO Jb),Ly (Z4 (.row 0 1) RZ [((i0:Nat):Int)] (o:=.full) (n:=1) (ns:=[.zi ((i0:Nat):Int)]) (BU.wn [((i0:Nat):Int)] (.r .nil)) rfl rfl (by simp) (by simpa using hl4)),pi BQ] k
 rintro rfl;rintro⟨⟩;exact gM [pb (C2 Ca),Ag (NO Jb),pi BQ] k;rintro fV abz;refine sJ ?_;rintro rfl;exact C7 (v:=.sl (.row 0 1) fV.length (rows G8 fV)) [] .body (.wn (.s rfl .nil) (BU.Bk fV));rintro rfl;refine sJ ?_;rintro rfl;exact gA (v:=.sl .full 0 []) [pb Ax,pb AL,Ag (IZ CK)] .body (.wn (.z .nil) (BU.Bk []))
end Mo
end Go.Proofs.YtnijkdknnmgoeaaGreat

namespace Go.Proofs.YtnijkdknnmgoeaaGreat
open AI Go
namespace Mo
set_option maxRecDepth 100000
set_option maxHeartbeats 4000000
def Tu(s:ByteArray):Prop:=s.data.toList.length=3/\∀c∈s.data.toList,65<=c.toNat/\c.toNat<=90
def GQ(s:ByteArray):Prop:=s=Ak\/s=AF\/s=B2\/Tu s
def Rm(c:UInt8):Prop:=(97<=c.toNat/\c.toNat<=122)\/(48<=c.toNat/\c.toNat<=57)\/c.toNat=95
def V8:List ByteArray:=[dD,eU,QN,vQ,fD,hD,toS,Xb,eN,Tv,S3,Ak,AF,B2,wN,fX,TH,Wj,fR,bR,Mp,wU,aW,iB,WO,xY,EH,SP,Ja,Mz,Ni,FM,Wr]
def HE(s:ByteArray):Prop:=(1<=s.data.toList.length/\s.data.toList.length<=16)/\(∃b,s.data.toList[0]?=some b/\97<=b.toNat/\b.toNat<=122)/\s∉V8/\∀c∈s.data.toList,Rm c
def KR{n:Nd}(h:Iu n):n.BX.ps.length<=9223372036854775807/\n.kids.length<=9223372036854775807/\∀k∈n.kids,Iu k:=by
 obtain⟨a,b,c⟩:=(uK n).1 h;exact⟨a.1,b,c⟩
def GH{α:Type}{l:List α}{P:α->Prop}:(∀(i:Nat) (y:α),l[i]?=some y->P y)↔∀y∈l,P y :=
 ⟨λh y hy=>(List.getElem?_of_mem hy).elim λi hi=>h i y hi,λh i y hi=>h y (List.mem_of_getElem? hi)⟩
def adD(s:ByteArray):HB s=some (mb (s∈V8)):=by
 rw[HB];simp only[B5,Bd,EW,WU];refine Kp ?_;simp only[V8,List.mem_cons,List.not_mem_nil,or_false]
def rQ(s:ByteArray):s=ByteArray.empty↔s.data.toList.length=0:=by
 constructor;intro h;rw[h];rfl;intro h;apply ByteArray.ext;apply Array.ext';rw[List.eq_nil_of_length_eq_zero h];rfl
def bW(s:ByteArray):Di s=some (mb (HE s)):=by
 rw[Di];simp only[B5,CC,Bd,adD,Option.bind_some];unfold HE;by_cases h0:s=ByteArray.empty;rw[Ac h0];exact FE λh=>by have:=(rQ s).1 h0;omega
 have h1:s.data.toList.length≠0:=λh=>h0 ((rQ s).2 h);rw[Ab h0];by_cases h2:16 < ((s.data.toList.length:Nat):Int);rw[Ac h2];exact FE λh=>by omega
 rw[Ab h2];obtain⟨b,hb⟩:∃b,s.data.toList[0]?=some b:=⟨_,List.getElem?_eq_getElem (by omega)⟩
 rw[hb,Dy (v:=false) (P:=λ_ y=>Rm y) (by omega) (λi y _=>by
   simp only[HG,CC,BB,Bd,NC,YL,VD,afw,Xe,amV,ahz];congr 2;unfold Rm;apply propext;omega)]
 simp only[Option.bind_some,EW,XT,GH];refine Kp ?_;constructor;rintro⟨h3,h4,h5,h6⟩;exact⟨by omega,⟨b,rfl,by omega⟩,h5,h6⟩;rintro⟨h3,⟨c,hc,h4⟩,h5,h6⟩;cases hc;exact⟨by omega,by omega,h5,h6⟩
def fJ(s:ByteArray):IQ s=some (mb (Tu s)):=by
 rw[IQ,BB,Bd];unfold Tu;by_cases h:((s.data.toList.length:Nat):Int)=3
 rw[Ac h,Dy (v:=false) (P:=λ_ y=>65<=y.toNat/\y.toNat<=90) (by omega) (λi y _=>by
   simp only[Kg,CC,Bd,VD,Xe];congr 2;apply propext;omega),EW,GH]
 exact Kp ⟨λh2=>⟨by omega,h2⟩,λh2=>h2.2⟩;rw[Ab h];exact FE λh2=>h (by omega)
def YK(s:ByteArray):Fa s=some (mb (GQ s)):=by
 rw[Fa];simp only[B5,Bd,fJ,Option.bind_some,WU];rfl
def JX(n:Int):Prop:=1<=n/\n<=1000000
def Xt(n:Int):DW n=some (mb (JX n)):=by
 rw[DW];simp only[Ea,Bd,EW,Ek];rfl
def acA(n:Int):Prop:=0<=n/\n<=36524
def Y7(s:ByteArray):Prop:=s=EH\/s=SP\/s=Ja\/s=Mz
def ad6(s:ByteArray):GO s=some (mb (Y7 s)):=by
 rw[GO];simp only[B5,Bd,EW,WU];rfl
def fH(a b:List Pc)(ha:a.length<=9223372036854775807):Hc a b=some (mb (a=b)):=by
 rw[Hc,BB,Bd];by_cases h:((a.length:Nat):Int)=((b.length:Nat):Int)
 rw[Ac h,Dy (v:=false) (P:=λi y=>b[i]?=some y) ha (λi y hy=>by
   have hi:i < a.length:=(List.getElem?_eq_some_iff.1 hy).1;have hb:b[i]?=some b[i]:=List.getElem?_eq_getElem (by omega);simp only[Ns];rw[hb];simp only[Option.bind_some]
   have hs:Qf y b[i]=mb (b[i]?=some y):=by
     rw[Bool.eq_iff_iff,BE,hb];unfold Qf;simp only[Bool.and_eq_true,RU,beq_iff_eq,Option.some.injEq];generalize b[i]=z;cases y;cases z;simp only[Pc.mk.injEq];grind
   rw[hs,Bd,NC,hb]),EW]
 refine Kp ⟨λh2=>?_,λh2 i y hy=>by rw[<- h2];exact hy⟩;apply List.ext_getElem?;intro i;by_cases hi:i < a.length;rw[List.getElem?_eq_getElem hi,h2 i _ (List.getElem?_eq_getElem hi)];rw[List.getElem?_eq_none (by omega),List.getElem?_eq_none (by omega)];rw[Ab h];exact FE λh2=>h (by rw[h2])
def FU(n f:Nd):Prop:=n.name=f.name/\n.unit=f.unit/\n.n=f.n/\n.fr=f.fr/\n.to=f.to/\n.known=f.known/\n.BX.den=f.BX.den/\n.BX.ps=f.BX.ps
def eZ(n f:Nd)(h:n.BX.ps.length<=9223372036854775807):BJ n f=some (mb (FU n f)):=by
 rw[BJ,fH _ _ h];simp only[B5,BB,Bd,Option.bind_some,Ek];rfl
end Mo
end Go.Proofs.YtnijkdknnmgoeaaGreat
namespace Go.Proofs.YtnijkdknnmgoeaaGreat
open AI Go
namespace Mo
set_option maxRecDepth 100000
set_option maxHeartbeats 4000000
def aP{p:Prop}(h:¬p):mb p=false:=by rw[Vc];exact h
def Out(r:Option (Bool×Int))(P:Prop)(t:Int):Prop:=∃z,r=some (mb P,z)/\(P->z=t)
def Out.congr{r:Option (Bool×Int)}{P Q:Prop}{t u:Int}(h:Out r P t)(hp:P↔Q)(ht:Q->t=u):Out r Q u:=by
 obtain⟨z,h1,h2⟩:=h;exact⟨z,by rw[h1,CA hp],λq=>(h2 (hp.2 q)).trans (ht q)⟩
def Lx{Q:Prop}{z u:Int}(h:¬Q):Out (some (false,z)) Q u:=⟨z,by rw[aP h],λq=>absurd q h⟩
def Yi{P Q:Prop}{u:Int}(h:P↔Q):Out (some (mb P,u)) Q u:=⟨u,by rw[CA h],λ_=>rfl⟩
def IG{p Q:Prop}{A:Option (Bool×Int)}{z u:Int}(h:p->Out A Q u)(hq:Q->p):Out (AM p A (some (false,z))) Q u:=by
 by_cases hp:p;rw[Ac hp];exact h hp;rw[Ab hp];exact Lx λq=>hp (hq q)
def rU{p Q:Prop}{A:Option (Bool×Int)}{z u:Int}(h:¬p->Out A Q u)(hq:Q->¬p):Out (AM p (some (false,z)) A) Q u:=by
 by_cases hp:p;rw[Ac hp];exact Lx λq=>hq q hp;rw[Ab hp];exact h hp
mutual
def Fv:Nd->Nat
 | ⟨_,_,_,_,_,_,_,_,kids,_⟩=>1+JL kids
def JL:List Nd->Nat
 | []=>0
 | k::ks=>Fv k+JL ks
end
mutual
def Ui:Nd->Nat
 | ⟨_,_,_,_,_,_,_,_,kids,_⟩=>1+dpL kids
def dpL:List Nd->Nat
 | []=>0
 | k::ks=>max (Ui k) (dpL ks)
end
def CN(n:Nd):Fv n=1+JL n.kids:=by cases n;rw[Fv]
def U3(n:Nd):Ui n=1+dpL n.kids:=by cases n;rw[Ui]
def dX{l:List Nd}{m:Nat}:dpL l<=m↔∀k∈l,Ui k<=m:=by
 induction l with
 | nil=>simp[dpL]
 | cons a l ih=>simp only[dpL,Nat.max_le,ih,List.mem_cons,forall_eq_or_imp]
def FZ{l:List Nd}{k:Nd}(h:k∈l):Fv k<=JL l:=by
 induction l with
 | nil=>cases h
 | cons a l ih =>
   rw[JL];rcases List.mem_cons.1 h with rfl | h
   omega;have:=ih h;omega
def Gy(l:List Nd):l.length<=JL l:=by
 induction l with
 | nil=>simp[JL]
 | cons a l ih=>rw[JL,CN];simp only[List.length_cons];omega
def P7{n k:Nd}(h:k∈n.kids):Fv k < Fv n:=by rw[CN n];have:=FZ h;omega
def Va{g:Ck->Nd->Int->Option (Bool×Int)}{p:Nd->Prop}{d:Int}:∀{l:List Nd} {i:Nat} {c:Int},0<=c->c<=2000->(∀k∈l,∀c:Int,0<=c->c<=2000->Out (g ⟨c⟩ k d) (p k/\c+Fv k<=2000/\d+Ui k<=41) (c+Fv k)) ->
   Out ((Au (δ:=Int) (ρ:=Bool×Int) (λ_ y (x:Int)=>(g ⟨x⟩ y d).bind λ(O5,DN)=>cond O5 (some (.nx DN)) (some (.rt (false,DN)))) (λx=>x) l i c).bind (Eu (λ(w:Int)=>some (true,w)) (λv=>some v)))
     ((∀k∈l,p k/\d+Ui k<=41)/\c+JL l<=2000) (c+JL l)
 | [],i,c,h0,h1,_=>⟨c,by rw[BE.2 ⟨λk hk=>(by cases hk),by simp only[JL];omega⟩];rfl,λ_=>by simp[JL]⟩
 | y::l,i,c,h0,h1,hg=>by
   obtain⟨z,hz,h2⟩:=hg y (by simp) c h0 h1;rw[Au,hz];simp only[Option.bind_some];by_cases hp:p y/\c+Fv y<=2000/\d+Ui y<=41;rw[BE.2 hp,h2 hp];show Out ((Au _ _ l (i+1) (c+Fv y)).bind _) _ _;refine(Va (l:=l) (i:=i+1) (c:=c+Fv y) (by omega) hp.2.1 λk hk=>hg k (by simp[hk])).congr ?_ ?_;rw[JL];simp only[List.mem_cons,forall_eq_or_imp,Int.natCast_add];constructor;rintro⟨a,b⟩;exact⟨⟨⟨hp.1,hp.2.2⟩,a⟩,by omega⟩;rintro⟨⟨_,a⟩,b⟩;exact⟨a,by omega⟩;intro _;rw[JL];omega;rw[aP hp];refine⟨z,?_,λq=>?_⟩;show some (false,z)=_;rw[aP];rintro⟨a,b⟩;rw[JL] at b;have:=a y (by simp);exact hp ⟨this.1,by omega,this.2⟩;exfalso;obtain⟨a,b⟩:=q;rw[JL] at b;have:=a y (by simp);exact hp ⟨this.1,by omega,this.2⟩
def fY(n:Nd){c d:Int}(h0:0<=c)(h1:c<=2000):Out (B4 ⟨c⟩ n d) (c+1<=2000/\d<=40) (c+1):=by
 rw[B4,Dl (by show _<=c+1/\c+1<=_;omega)];simp only[Ea,Bd,Option.bind_some];by_cases h:c+1<=2000;rw[Ac h];exact Yi ⟨λa=>⟨h,a⟩,λa=>a.2⟩;rw[Ab h];exact Lx λa=>h a.1
def XM(f:Fn)(i:Nat)(p:Pc):Prop:=p.fr<=999999999999/\(∀q,0 < i->f.ps[i - 1]?=some q->q.fr < p.fr)/\jF p.Ct f.den=some 0/\p.Ct<=jX 999999999999 f.den/\jX (-999999999999) f.den<=p.Ct/\p.Iz<=1000000/\-1000000<=p.Iz
def nD(f:Fn):Prop:=JX f.den/\(1<=f.ps.length/\f.ps.length<=64)/\(∀x,f.ps[0]?=some x->x.fr=0)/\∀(i:Nat) p,f.ps[i]?=some p->XM f i p
def apu(f:Fn)(hl:f.ps.length<=9223372036854775807):Hv f=some (mb (nD f)):=by
 rw[Hv,Xt];simp only[Option.bind_some,Bd,CC,BB];unfold nD;by_cases hr:JX f.den;rotate_left;rw[Ab hr];exact FE λh=>hr h.1;rw[Ac hr];by_cases h1:((f.ps.length:Nat):Int) < 1;rw[Ac h1];exact FE λh=>by omega
 rw[Ab h1];by_cases h2:64 < ((f.ps.length:Nat):Int);rw[Ac h2];exact FE λh=>by omega
 rw[Ab h2];have u5:f.ps[0]?=some f.ps[0]:=List.getElem?_eq_getElem (by omega);rw[u5];simp only[Option.bind_some];by_cases h3:f.ps[0].fr=0;rotate_left;rw[Ab h3];exact FE λh=>h3 (h.2.2.1 _ rfl);rw[Ac h3];have ahs:f.den≠0:=by unfold JX at hr;omega
 rw[Dy (v:=false) (P:=λi y=>XM f i y) hl (λi y hy=>by
   have hi:i < f.ps.length:=(List.getElem?_eq_some_iff.1 hy).1;simp only[IC,CC,Bd,Ea,BB];have hd:∃z,jF y.Ct f.den=some z:=by unfold jF;rw[if_neg ahs];exact⟨_,rfl⟩
   obtain⟨z,hz⟩:=hd;unfold XM;rw[hz];by_cases h0:(0:Int) < ((i:Nat):Int);rw[Ac h0,Oz (by omega)];have hq:f.ps[i - 1]?=some f.ps[i - 1]:=List.getElem?_eq_getElem (by omega)
   have hg:Cn f.ps (((i:Nat):Int) - 1)=some f.ps[i - 1]:=by
     unfold Cn;rw[show(((i:Nat):Int) - 1).toNat=i - 1 by omega];simp only[hq]
     first | rfl | (rw[if_pos (by omega)])
   rw[hg,hq];simp only[Option.bind_some,VD,Xe,YL,afw];congr 2;apply propext;simp only[Option.some.injEq,forall_eq'];grind;rw[Ab h0];simp only[Option.bind_some,VD,Xe,YL,afw];congr 2;apply propext;simp only[Option.some.injEq];have:¬0 < i:=by omega
   grind),EW]
 refine Kp ⟨λh=>⟨hr,by omega,λx hx=>by cases hx;exact h3,h⟩,λh=>h.2.2.2⟩
def cE(s:ByteArray):Prop:=s=OO\/s=bR\/s=Mp\/s=JV\/s=Lv\/s=Um\/s=J2\/s=QV\/s=T7\/s=S8\/s=aW
def VB(k:Nd):Prop:=k.kind=11/\k.unit=AF/\JX k.n
def Ww(n:Nd):Prop :=
 (n.kind=11/\GQ n.unit/\0<=n.n/\n.n<=999999999999/\(n.unit=Ak->n.n<=1)/\n.kids.length=0/\FU n ⟨0,ByteArray.empty,n.unit,n.n,0,0,0,⟨0,[]⟩,[],0⟩) \/
 (n.kind=12/\HE n.name/\n.kids.length=0/\FU n ⟨0,n.name,ByteArray.empty,0,0,0,0,⟨0,[]⟩,[],0⟩) \/
 (n.kind=13/\JX n.n/\n.kids.length=0/\FU n ⟨0,ByteArray.empty,ByteArray.empty,n.n,0,0,0,⟨0,[]⟩,[],0⟩) \/
 (n.kind=14/\Y7 n.name/\n.kids.length=0/\FU n ⟨0,n.name,ByteArray.empty,0,0,0,0,⟨0,[]⟩,[],0⟩) \/
 (n.kind=15/\n.kids.length=1/\FU n ⟨0,ByteArray.empty,ByteArray.empty,0,0,0,0,⟨0,[]⟩,[],0⟩) \/
 (n.kind=16/\FU n ⟨0,n.name,ByteArray.empty,0,0,0,0,⟨0,[]⟩,[],0⟩/\n.kids.length=2/\cE n.name/\(n.name=OO->∀k,n.kids[1]?=some k->VB k)) \/
 (n.kind=17/\(n.name=Ni\/n.name=FM)/\FU n ⟨0,n.name,ByteArray.empty,0,0,0,0,⟨0,[]⟩,[],0⟩/\2<=n.kids.length) \/
 (n.kind=18/\FU n ⟨0,ByteArray.empty,ByteArray.empty,0,0,0,0,n.BX,[],0⟩/\nD n.BX/\n.kids.length=1)
mutual
def Rf:Nd->Prop
 | ⟨kind,name,unit,n,fr,to,known,BX,kids,Ct⟩=>Ww ⟨kind,name,unit,n,fr,to,known,BX,kids,Ct⟩/\afn kids
def afn:List Nd->Prop
 | []=>True
 | k::ks=>Rf k/\afn ks
end
def ac0{l:List Nd}:afn l↔∀k∈l,Rf k:=by
 induction l with
 | nil=>simp[afn]
 | cons k l ih=>simp[afn,ih]
def P9(n:Nd):Rf n↔Ww n/\∀k∈n.kids,Rf k:=by cases n;rw[Rf,ac0]
end Mo
end Go.Proofs.YtnijkdknnmgoeaaGreat
namespace Go.Proofs.YtnijkdknnmgoeaaGreat
open AI Go
namespace Mo
set_option maxRecDepth 100000
set_option maxHeartbeats 4000000
def YE{β:Type}{p:Prop}{a b:β}:AM p (some a) (some b)=some (AM p a b):=by
 by_cases h:p;rw[Ac h,Ac h];rw[Ab h,Ab h]
def ZM(l:List Dc)(z:Int):ByteArray:=((Cn l z).map (·.unit)).getD ByteArray.empty
def gP(s:ByteArray):Int:=AM (s=EH) 1 (AM (s=SP) 2 (AM (s=Ja) 3 (AM (s=Mz) 4 0)))
def trL(t:Tr)(n:Nd):Ex :=
 AM (n.kind=11) ⟨1,n.n,n.unit,⟨0,[]⟩,[]⟩
 (AM (n.kind=12) ⟨2,(t.facts.get n.name).getD 0,ZM t.Ae.facts ((t.facts.get n.name).getD 0),⟨0,[]⟩,[]⟩ (AM (n.kind=13) ⟨3,n.n,ZM t.Ae.lines ((t.Ao.get n.n).getD 0),⟨0,[]⟩,[]⟩ ⟨4,gP n.name,AF,⟨0,[]⟩,[]⟩))
def qK(s:ByteArray)(u v:ByteArray)(ks:List Ex):Ex :=
 AM (s=Mp) ⟨6,0,Ak,⟨0,[]⟩,ks⟩ (AM (s=bR) ⟨7,0,Ak,⟨0,[]⟩,ks⟩ (AM (s=JV) ⟨8,0,Ak,⟨0,[]⟩,ks⟩ (AM (s=Lv) ⟨5,0,Ak,⟨0,[]⟩,[⟨8,0,Ak,⟨0,[]⟩,ks⟩]⟩ (AM (s=Um) ⟨9,0,Ak,⟨0,[]⟩,ks⟩ (AM (s=J2) ⟨10,0,Ak,⟨0,[]⟩,ks⟩ (AM (s=QV) ⟨11,0,u,⟨0,[]⟩,ks⟩ (AM (s=T7) ⟨12,0,u,⟨0,[]⟩,ks⟩ (AM (s=OO) ⟨14,0,u,⟨0,[]⟩,ks⟩ (AM (s=S8) ⟨13,0,AM (u=AF) v u,⟨0,[]⟩,ks⟩ (AM (s=aW) ⟨15,0,v,⟨0,[]⟩,ks⟩ ⟨0,0,Ak,⟨0,[]⟩,ks⟩))))))))))
def unK(ks:List Ex)(i:Nat):ByteArray:=((ks[i]?).map (·.unit)).getD ByteArray.empty
def trO(t:Tr)(n:Nd)(ks:List Ex):Ex :=
 AM (n.kind=15) ⟨5,0,Ak,⟨0,[]⟩,ks⟩
 (AM (n.kind=16) (qK n.name (unK ks 0) (unK ks 1) ks) (AM (n.kind=17) (AM (n.name=FM) ⟨17,0,unK ks 0,⟨0,[]⟩,ks⟩ ⟨16,0,unK ks 0,⟨0,[]⟩,ks⟩) (AM (n.kind=18) ⟨18,0,unK ks 0,⟨n.BX.den,n.BX.ps⟩,ks⟩ (trL t n))))
mutual
def SY(t:Tr):Nd->Ex
 | ⟨kind,name,unit,n,fr,to,known,BX,kids,Ct⟩=>trO t ⟨kind,name,unit,n,fr,to,known,BX,kids,Ct⟩ (We t kids)
def We(t:Tr):List Nd->List Ex
 | []=>[]
 | k::ks=>SY t k::We t ks
end
def qW(t:Tr):∀l:List Nd,We t l=l.map (SY t)
 | []=>by rw[We];rfl
 | k::l=>by rw[We,qW t l];rfl
def vS(t:Tr)(e:Nd):SY t e=trO t e (e.kids.map (SY t)):=by cases e;rw[SY,qW]
mutual
def Sy(t:Tr):Nd->Prop
 | ⟨kind,name,_,n,_,_,_,BX,kids,_⟩=>(kind=16->2<=kids.length)/\(kind=17\/kind=18->1<=kids.length)/\(kind=12->(Cn t.Ae.facts ((t.facts.get name).getD 0)).isSome=true)/\(kind=13->(Cn t.Ae.lines ((t.Ao.get n).getD 0)).isSome=true)/\(kind=18->BX.ps.length<=100000000)/\R2 t kids
def R2(t:Tr):List Nd->Prop
 | []=>True
 | k::ks=>Sy t k/\R2 t ks
end
def vT{t:Tr}{l:List Nd}:R2 t l↔∀k∈l,Sy t k:=by
 induction l with
 | nil=>simp[R2]
 | cons k l ih=>simp[R2,ih]
def mP(t:Tr)(e:Nd):Sy t e↔(e.kind=16->2<=e.kids.length)/\(e.kind=17\/e.kind=18->1<=e.kids.length)/\(e.kind=12->(Cn t.Ae.facts ((t.facts.get e.name).getD 0)).isSome=true)/\(e.kind=13->(Cn t.Ae.lines ((t.Ao.get e.n).getD 0)).isSome=true)/\(e.kind=18->e.BX.ps.length<=100000000)/\∀k∈e.kids,Sy t k:=by
 cases e;rw[Sy,vT]
def apL{t:Tr}{n:Nd}(h2:n.kind=12->(Cn t.Ae.facts ((t.facts.get n.name).getD 0)).isSome=true)(h3:n.kind=13->(Cn t.Ae.lines ((t.Ao.get n.n).getD 0)).isSome=true):EM t n=some (trL t n):=by
 rw[EM,trL];simp only[HM,N9];by_cases k1:n.kind=11;rw[Ac k1,Ac k1];rw[Ab k1,Ab k1];by_cases k2:n.kind=12;rw[Ac k2,Ac k2];obtain⟨x,hx⟩:=Option.isSome_iff_exists.1 (h2 k2);rw[hx,Option.bind_some,ZM,hx];rfl;rw[Ab k2,Ab k2];by_cases k3:n.kind=13;rw[Ac k3,Ac k3];obtain⟨x,hx⟩:=Option.isSome_iff_exists.1 (h3 k3);rw[hx,Option.bind_some,ZM,hx];rfl;rw[Ab k3,Ab k3,gP];by_cases k4:n.name=EH;rw[Ac k4,Ac k4];rw[Ab k4,Ab k4];by_cases k5:n.name=SP;rw[Ac k5,Ac k5];rw[Ab k5,Ab k5];by_cases k6:n.name=Ja;rw[Ac k6,Ac k6];rw[Ab k6,Ab k6];by_cases k7:n.name=Mz;rw[Ac k7,Ac k7];rw[Ab k7,Ab k7]
def arp(u v:ByteArray):DA u v=some (AM (u=AF) v u):=by
 rw[DA,N9,YE]
def ahW{q:Nat}{t:Tr}{n:Nd}{f:Nd->Ex}(hf:∀k∈n.kids,A3 q t k=some (f k))(hl:n.kids.length<=100000):A6 (q+1) t n=some (n.kids.map f):=by
 rw[A6,GB,MA];refine CW (λi x=>x=(n.kids.take i).map f) (by omega) (by simp) (λi y x hy hI=>?_) (λx hI=>?_);have I5:=List.mem_of_getElem? hy;have hi:=(List.getElem?_eq_some_iff.1 hy).1;rw[FX,hf y I5,Option.bind_some,D9 (by rw[hI,List.length_map,List.length_take];omega),AB,C9,List.take_add_one,hy,hI];simp;rw[hI,List.take_length,AB]
def aqn(t:Tr):∀(m q:Nat) (e:Nd),Fv e<=m->3*m<=q->Fv e<=100000->Sy t e->A3 q t e=some (SY t e):=by
 intro m
 induction m with
 | zero=>intro q e h;have:=CN e;omega
 | succ m ih =>
   intro q e hm hq hz hs;obtain⟨s1,s2,s3,s4,s5,s6⟩:=(mP t e).1 hs;have he:=CN e;have hl:=Gy e.kids;obtain⟨q,rfl⟩:∃p,q=p+3:=⟨q - 3,by omega⟩
   have hk:A6 (q+1) t e=some (e.kids.map (SY t)):=ahW (λk hk=>by
     have:=P7 hk;exact ih q k (by omega) (by omega) (by omega) (s6 k hk)) (by omega)
   rw[A3,Gm,vS,trO];simp only[HM];have hlen:(e.kids.map (SY t)).length=e.kids.length:=List.length_map _;generalize e.kids.map (SY t)=ks at hk hlen;by_cases k1:e.kind=15;rw[Ac k1,Ac k1,Bo,G3,hk];rfl;rw[Ab k1,Ab k1];by_cases k2:e.kind=16;rw[Ac k2,Ac k2,A9,Fw,hk];have h2:=s1 k2
   match ks,hlen with
   | [],hlen=>simp at hlen;omega
   | [_],hlen=>simp at hlen;omega
   | a::b::l,_ =>
     simp only[Option.bind_some,List.getElem?_cons_zero,List.getElem?_cons_succ,N9,arp,YE];rfl
   rw[Ab k2,Ab k2];by_cases k3:e.kind=17;rw[Ac k3,Ac k3,Bi,Gu,hk];have h2:=s2 (.inl k3)
   match ks,hlen with
   | [],hlen=>simp at hlen;omega
   | a::l,_ =>
     simp only[Option.bind_some,List.getElem?_cons_zero,N9,YE];rfl
   rw[Ab k3,Ab k3];by_cases k4:e.kind=18;rw[Ac k4,Ac k4,Bf,FW,hk];have h2:=s2 (.inr k4)
   match ks,hlen with
   | [],hlen=>simp at hlen;omega
   | a::l,_ =>
     rw[P6,D9 (by simpa using s5 k4)]
     simp only[Option.bind_some,List.getElem?_cons_zero];rfl
   rw[Ab k4,Ab k4,apL s3 s4];rfl
def aqQ{t:Tr}{e:Nd}(hz:Fv e<=100000)(hs:Sy t e):IV t e=some (SY t e) :=
 Ih (3*Fv e) λq hq=>aqn t (Fv e) q e (Nat.le_refl _) hq hz hs
end Mo
end Go.Proofs.YtnijkdknnmgoeaaGreat
namespace Go.Proofs.YtnijkdknnmgoeaaGreat
open AI Go
namespace Mo
set_option maxRecDepth 100000
set_option maxHeartbeats 4000000
mutual
def R3:Ex->Nat
 | ⟨_,_,_,_,kids⟩=>1+Ms kids
def Ms:List Ex->Nat
 | []=>0
 | k::ks=>R3 k+Ms ks
end
mutual
def jM:Ex->Nat
 | ⟨_,_,_,_,kids⟩=>Tx kids+1
def Tx:List Ex->Nat
 | []=>0
 | k::ks=>max (jM k) (Tx ks)
end
def Wq(e:Ex):R3 e=1+Ms e.kids:=by cases e;rw[R3]
def alj(e:Ex):jM e=Tx e.kids+1:=by cases e;rw[jM]
def uV(l m:List Ex):Ms (l++m)=Ms l+Ms m:=by
 induction l with
 | nil=>simp[Ms]
 | cons k l ih=>simp only[List.cons_append,Ms,ih];omega
def ae5(l m:List Ex):Tx (l++m)=max (Tx l) (Tx m):=by
 induction l with
 | nil=>simp[Tx]
 | cons k l ih=>simp only[List.cons_append,Tx,ih];omega
def eH{l:List Ex}{k:Ex}(h:k∈l):R3 k<=Ms l:=by
 induction l with
 | nil=>cases h
 | cons a l ih =>
   rw[Ms];rcases List.mem_cons.1 h with rfl | h
   omega;have:=ih h;omega
def aba{l:List Ex}{i:Nat}{y:Ex}(h:l[i]?=some y):Ms (l.take (i+1))=Ms (l.take i)+R3 y:=by
 rw[List.take_add_one,h,uV];simp[Ms]
def abH{l:List Ex}{i:Nat}{y:Ex}(h:l[i]?=some y):Tx (l.take (i+1))=max (Tx (l.take i)) (jM y):=by
 rw[List.take_add_one,h,ae5];simp[Tx]
def acH(l:List Ex)(i:Nat):Ms (l.take i)<=Ms l:=by
 have:=uV (l.take i) (l.drop i);rw[List.take_append_drop] at this;omega
def dP(l:List Ex):l.length<=Ms l:=by
 induction l with
 | nil=>exact Nat.le_refl _
 | cons k l ih=>have:=Wq k;rw[Ms,List.length_cons];omega
mutual
def af4:∀e:Ex,jM e<=R3 e
 | ⟨_,_,_,_,kids⟩=>by rw[jM,R3];have:=ZI kids;omega
def ZI:∀l:List Ex,Tx l<=Ms l
 | []=>by rw[Tx,Ms];exact Nat.le_refl _
 | k::l=>by rw[Tx,Ms];have:=af4 k;have:=ZI l;omega
end
def acp:∀(q:Nat) (e:Ex),R3 e<=q->R3 e<=1000000->Fs q e=some (((R3 e:Nat):Int),((jM e:Nat):Int)):=by
 intro q
 induction q with
 | zero=>intro e h;have:=Wq e;omega
 | succ q ih =>
   intro e hq hz;have he:=Wq e;have hl:=dP e.kids;rw[Fs,L4,MA];refine CW (λi x=>x=(((1+Ms (e.kids.take i):Nat):Int),((Tx (e.kids.take i):Nat):Int))) (by omega) (by simp[Ms,Tx]) (λi y x hy hI=>?_) (λx hI=>?_);have I5:=List.mem_of_getElem? hy;have hm:=eH I5;have h1:=aba hy;have h2:=abH hy;have h3:=acH e.kids (i+1);rw[K4,ih y (by omega) (by omega)];simp only[Option.bind_some,AB,C9,hI];rw[Dl (by omega),h1,h2];unfold sC;refine Prod.ext ?_ ?_;show _+_=_;omega;show(if _ then _ else _)=_
   split<;>omega
   have h3:=ZI e.kids;rw[hI,List.take_length];simp only[AB];rw[Dl (by omega),he,alj];refine Prod.ext rfl ?_;show _+_=_;omega
def abp{e:Ex}(hz:R3 e<=1000000):Pk e=some (((R3 e:Nat):Int),((jM e:Nat):Int)) :=
 Ih (R3 e) λq hq=>acp q e hq hz
def LU(t:Tr)(s:List Dg×List Int×List Ex×Ex)(e:Nd):List Dg×List Int×List Ex×Ex :=
 AM (e.kind=7) (s.1,s.2.1++e.kids.map (·.n),s.2.2)
 (AM (e.kind=6)
   (AM (400 < R3 (SY t (e.kids.headD e))\/40 < jM (SY t (e.kids.headD e))) (s.1++[⟨2,e.Ct⟩]) s.1,s.2.1,s.2.2.1++[SY t (e.kids.headD e)],s.2.2.2)
   (AM (400 < R3 (SY t (e.kids.headD e))\/40 < jM (SY t (e.kids.headD e))) (s.1++[⟨2,e.Ct⟩]) s.1,s.2.1,s.2.2.1,SY t (e.kids.headD e)))
def Kb(t:Tr)(l:List Nd):List Dg×List Int×List Ex×Ex:=l.foldl (LU t) ([],[],[],⟨0,0,ByteArray.empty,⟨0,[]⟩,[]⟩)
def trA(t:Tr)(item:Nd):Ar :=
 ⟨item.n,(t.lines.get item.name).getD 0,(item.kids.headD item).n,(item.kids.headD item).fr,(item.kids.headD item).to,(item.kids.headD item).known,
  (Kb t item.kids.tail).2.2.1,(Kb t item.kids.tail).2.1,(Kb t item.kids.tail).2.2.2⟩
end Mo
end Go.Proofs.YtnijkdknnmgoeaaGreat
namespace Go.Proofs.YtnijkdknnmgoeaaGreat
open AI Go
namespace Mo
set_option maxRecDepth 100000
set_option maxHeartbeats 4000000
def tK(l m:List Nd):JL (l++m)=JL l+JL m:=by
 induction l with
 | nil=>simp[JL]
 | cons k l ih=>simp only[List.cons_append,JL,ih];omega
def Zb{l:List Nd}{i:Nat}{y:Nd}(h:l[i]?=some y):JL (l.take (i+1))=JL (l.take i)+Fv y:=by
 rw[List.take_add_one,h,tK];simp[JL]
def ZK(l:List Nd)(i:Nat):JL (l.take i)<=JL l:=by
 have:=tK (l.take i) (l.drop i);rw[List.take_append_drop] at this;omega
def anH{p:Prop}{f:Ex->Nat}{a b:Ex}{m:Nat}(ha:f a<=m)(hb:f b<=m):f (AM p a b)<=m:=by
 by_cases h:p;rw[Ac h];exact ha;rw[Ab h];exact hb
def amQ(t:Tr)(n:Nd)(ks:List Ex):R3 (trO t n ks)<=2+Ms ks:=by
 unfold trO qK trL
 repeat' apply anH (f:=R3)
 all_goals simp only[R3,Ms]
 all_goals omega
mutual
def m7(t:Tr):∀e:Nd,R3 (SY t e)<=2*Fv e
 | ⟨kind,name,unit,n,fr,to,known,BX,kids,Ct⟩=>by
   have h:=aan t kids;rw[SY,Fv];have:=amQ t ⟨kind,name,unit,n,fr,to,known,BX,kids,Ct⟩ (We t kids);omega
def aan(t:Tr):∀l:List Nd,Ms (We t l)<=2*JL l
 | []=>by rw[We,Ms,JL];exact Nat.le_refl _
 | k::l=>by
   have h:=m7 t k;have h2:=aan t l;rw[We,Ms,JL];omega
end
def aa1(s:List Dg×List Int×List Ex×Ex):List Dg×List Int×List Ex×Int×Int×ByteArray×Int×List Pc×List Ex:=(s.1,s.2.1,s.2.2.1,s.2.2.2.op,s.2.2.2.n,s.2.2.2.unit,s.2.2.2.BX.den,s.2.2.2.BX.ps,s.2.2.2.kids)
def HQ{α β:Type}(f:β->α->β)(b:β){l:List α}{i:Nat}{y:α}(h:l[i]?=some y):(l.take (i+1)).foldl f b=f ((l.take i).foldl f b) y:=by
 rw[List.take_add_one,h,List.foldl_append];rfl
def aav(t:Tr)(item:Nd):Prop:=item.kids≠[]/\∀e∈item.kids.tail,e.kind≠7->∃k,e.kids[0]?=some k/\Sy t k
def ao0{t:Tr}{item:Nd}(hz:Fv item<=100000)(hs:aav t item)(ha:t.Ae.Ap.length<=1000000):DX t item=some ((Kb t item.kids.tail).1,t.Ae.Ap++[trA t item]):=by
 obtain⟨KS,hs⟩:=hs;have Q5:=CN item;rw[DX,MA];unfold trA;cases hk:item.kids with
 | nil=>exact absurd hk KS
 | cons a l =>
   rw[hk] at hs Q5;rw[JL] at Q5;simp only[List.tail_cons] at hs;have wG:=Gy l
   have qF:Ot (a::l) 1 (((a::l).length:Nat):Int)=some l:=by
     unfold Ot;rw[if_pos ⟨by omega,by simp only[List.length_cons];omega,by omega⟩];simp only[List.length_cons];rw[show(1:Int).toNat=1 from rfl,List.drop_one,List.tail_cons,List.take_of_length_le (by omega)]
   rw[List.getElem?_cons_zero,qF];simp only[Option.bind_some,List.tail_cons,List.headD_cons];refine CW (λi x=>∃s,s=(l.take i).foldl (LU t) ([],[],[],⟨0,0,ByteArray.empty,⟨0,[]⟩,[]⟩)/\x=aa1 s/\s.1.length<=i/\s.2.2.1.length<=i/\s.2.1.length<=JL (l.take i)) (by omega) ⟨_,rfl,rfl,by simp,by simp,by simp⟩ (λi y x hy hI=>?_) (λx hI=>?_);obtain⟨s,hs0,rfl,n1,n2,n3⟩:=hI;have I5:=List.mem_of_getElem? hy;have hi:=(List.getElem?_eq_some_iff.1 hy).1;have HK:=Zb hy;have htk:=ZK l (i+1);have hyz:=CN y;have hyl:=Gy y.kids;have M3:=HQ (LU t) ([],[],[],⟨0,0,ByteArray.empty,⟨0,[]⟩,[]⟩) hy;rw[<- hs0] at M3;obtain⟨d,u,w,am⟩:=s;simp only[aa1] at n1 n2 n3 ⊢;rw[EU];simp only[HM,Wh];by_cases k7:y.kind=7;rw[Ac k7];refine CW (λj x=>x=u++(y.kids.take j).map (·.n)) (by omega) (by simp) (λj z x hz2 hJ=>?_) (λx hJ=>?_);have hj:=(List.getElem?_eq_some_iff.1 hz2).1;rw[ES,D9 (by rw[hJ,List.length_append,List.length_map,List.length_take];omega),AB,C9,hJ,List.take_add_one,hz2];simp;rw[hJ,List.take_length,AB,C9];have hc:LU t (d,u,w,am) y=(d,u++y.kids.map (·.n),w,am):=by rw[LU,Ac k7]
   rw[hc] at M3;exact⟨_,M3.symm,rfl,by simp only;omega,by simp only;omega,by simp only[List.length_append,List.length_map];omega⟩;rw[Ab k7];obtain⟨k,cB,are⟩:=hs y I5 k7;have hkm:=List.mem_of_getElem? cB;have hkz:=FZ hkm;have hx:=m7 t k
   have hhd:y.kids.headD y=k:=by
     cases hyk:y.kids with
     | nil=>rw[hyk] at cB;cases cB
     | cons b m=>rw[hyk,List.getElem?_cons_zero] at cB;cases cB;rfl
   rw[cB];simp only[Option.bind_some];rw[aqQ (by omega) are];simp only[Option.bind_some];rw[abp (by omega)];simp only[Option.bind_some];have hc:LU t (d,u,w,am) y=(AM (y.kind=6) (AM (400 < R3 (SY t k)\/40 < jM (SY t k)) (d++[⟨2,y.Ct⟩]) d,u,w++[SY t k],am) (AM (400 < R3 (SY t k)\/40 < jM (SY t k)) (d++[⟨2,y.Ct⟩]) d,u,w,SY t k)):=by rw[LU,Ab k7,hhd]
   rw[hc] at M3;generalize SY t k=e at *
   have fin:∀(Qx:List Dg×List Int×List Ex×Int×Int×ByteArray×Int×List Pc×List Ex->Prop) (Qr:List Dg×List Ar->Prop) (d2:List Dg),d2.length<=i+1->(AM (400 < R3 e\/40 < jM e) (d++[⟨2,y.Ct⟩]) d)=d2->Sp (AM (y.kind=6) (JB (w.length+1) (some (Lp.nx (d2,u,w++[e],am.op,am.n,am.unit,am.BX.den,am.BX.ps,am.kids)))) (some (.nx (d2,u,w,e.op,e.n,e.unit,e.BX.den,e.BX.ps,e.kids)))) (RQ (λx=>∃s,s=(l.take (i+1)).foldl (LU t) ([],[],[],⟨0,0,ByteArray.empty,⟨0,[]⟩,[]⟩)/\x=aa1 s/\s.1.length<=i+1/\s.2.2.1.length<=i+1/\s.2.1.length<=JL (l.take (i+1))) Qx Qr):=by
     intro Qx Qr d2 dM hde;rw[hde] at M3;by_cases k6:y.kind=6;rw[Ac k6] at M3 ⊢;rw[D9 (by omega),AB,C9];exact⟨_,M3.symm,rfl,by simp only;omega,by simp only[List.length_append,List.length_singleton];omega,by simp only;omega⟩;rw[Ab k6] at M3 ⊢;rw[AB,C9];exact⟨_,M3.symm,rfl,by simp only;omega,by simp only;omega,by simp only;omega⟩
   by_cases k4:(400:Int) < ((R3 e:Nat):Int);rw[Ac k4,D9 (by omega)];exact fin _ _ _ (by simp only[List.length_append,List.length_singleton];omega) (Ac (.inl (by omega)));rw[Ab k4];by_cases k5:(40:Int) < ((jM e:Nat):Int);rw[Ac k5,D9 (by omega)];exact fin _ _ _ (by simp only[List.length_append,List.length_singleton];omega) (Ac (.inr (by omega)));rw[Ab k5];exact fin _ _ _ (by omega) (Ab (by omega));obtain⟨s,hs0,rfl,n1,n2,n3⟩:=hI;rw[List.take_length] at hs0;simp only[aa1];rw[D9 (by omega),AB,show Kb t l=s from hs0.symm];obtain⟨d,u,w,op,n,unit,⟨den,ps⟩,kids⟩:=s;rfl
end Mo
end Go.Proofs.YtnijkdknnmgoeaaGreat
namespace Go.Proofs.YtnijkdknnmgoeaaGreat
open AI Go
namespace Mo
set_option maxRecDepth 100000
set_option maxHeartbeats 4000000
def YW(s:List Dc×Mm ByteArray Int×List Dc×Mm ByteArray Int)(e:Nd):List Dc×Mm ByteArray Int×List Dc×Mm ByteArray Int :=
 AM (e.kind=2) (s.1++[⟨e.name,e.unit,0⟩],s.2.1.set e.name ((s.1.length:Nat):Int),s.2.2.1,s.2.2.2)
 (AM (e.kind=3) (s.1,s.2.1,s.2.2.1++[⟨e.name,e.unit,e.n⟩],s.2.2.2.set e.name ((s.2.2.1.length:Nat):Int)) s)
def HX(l:List Nd):List Dc×Mm ByteArray Int×List Dc×Mm ByteArray Int:=l.foldl YW ([],Mm.nil,[],Mm.nil)
def na1(lm:Mm ByteArray Int)(m:Mm Int Int)(e:Nd):Mm Int Int:=AM (e.kind=4) (m.set e.n ((lm.get e.name).getD 0)) m
def naP(lm:Mm ByteArray Int)(l:List Nd):Mm Int Int:=l.foldl (na1 lm) Mm.nil
def Hi(l:List Nd):Tr:=⟨⟨(HX l).1,(HX l).2.2.1,[]⟩,(HX l).2.1,(HX l).2.2.2,naP (HX l).2.2.2 l⟩
def amz{src:Nd}(hl:src.kids.length<=100000):FD src=some ((HX src.kids).1,(HX src.kids).2.2.1,(HX src.kids).2.1,(HX src.kids).2.2.2,naP (HX src.kids).2.2.2 src.kids):=by
 rw[FD,MA];refine CW (λi x=>x=(src.kids.take i).foldl YW ([],Mm.nil,[],Mm.nil)/\x.1.length<=i/\x.2.2.1.length<=i) (by omega) ⟨rfl,by simp,by simp⟩ (λi y x hy hI=>?_) (λx hI=>?_);obtain⟨h0,n1,n2⟩:=hI;have hi:=(List.getElem?_eq_some_iff.1 hy).1;have hf:=HQ YW ([],Mm.nil,[],Mm.nil) hy;rw[<- h0] at hf;obtain⟨f,fm,l,lm⟩:=x;simp only at n1 n2 ⊢;rw[GU];simp only[HM];rw[YW] at hf;simp only at hf;by_cases k2:y.kind=2;rw[Ac k2] at hf ⊢;rw[D9 (by omega),AB,C9];exact⟨hf.symm,by simp only[List.length_append,List.length_singleton];omega,by simp only;omega⟩;rw[Ab k2] at hf ⊢;by_cases k3:y.kind=3;rw[Ac k3] at hf ⊢;rw[D9 (by omega),AB,C9];exact⟨hf.symm,by simp only;omega,by simp only[List.length_append,List.length_singleton];omega⟩;rw[Ab k3] at hf ⊢;rw[AB,C9];exact⟨hf.symm,by simp only;omega,by simp only;omega⟩;obtain⟨h0,n1,n2⟩:=hI;rw[List.take_length] at h0;have h0:x=HX src.kids:=h0;subst h0;simp only;generalize HX src.kids=s;refine CW (λi x=>x=(src.kids.take i).foldl (na1 s.2.2.2) Mm.nil) (by omega) rfl (λi y x hy hI=>?_) (λx hI=>?_);have hf:=HQ (na1 s.2.2.2) Mm.nil hy;rw[<- hI,na1] at hf;rw[GS];simp only[HM];by_cases k4:y.kind=4;rw[Ac k4] at hf ⊢;rw[AB,C9];exact hf.symm;rw[Ab k4] at hf ⊢;rw[AB,C9];exact hf.symm;rw[List.take_length] at hI;subst hI;rw[AB];rfl
mutual
def agA(t u:Tr):Nd->Prop
 | ⟨kind,_,_,n,_,_,_,_,kids,_⟩=>(kind=13->t.Ao.get n=u.Ao.get n)/\qI t u kids
def qI(t u:Tr):List Nd->Prop
 | []=>True
 | k::ks=>agA t u k/\qI t u ks
end
mutual
def iC{t u:Tr}(h:t.Ao=u.Ao):∀e:Nd,agA t u e
 | ⟨_,_,_,_,_,_,_,_,kids,_⟩=>by rw[agA];exact⟨λ_=>by rw[h],mD h kids⟩
def mD{t u:Tr}(h:t.Ao=u.Ao):∀l:List Nd,qI t u l
 | []=>by rw[qI];trivial
 | k::l=>by rw[qI];exact⟨iC h k,mD h l⟩
end
def acb{t u:Tr}(hf:t.Ae.facts=u.Ae.facts)(hl:t.Ae.lines=u.Ae.lines)(hm:t.facts=u.facts){n:Nd}(h:n.kind=13->t.Ao.get n.n=u.Ao.get n.n)(ks:List Ex):trO t n ks=trO u n ks:=by
 unfold trO trL;rw[hf,hl,hm];by_cases k:n.kind=13;rw[h k];simp only[Ab k]
mutual
def kR{t u:Tr}(hf:t.Ae.facts=u.Ae.facts)(hl:t.Ae.lines=u.Ae.lines)(hm:t.facts=u.facts):∀e:Nd,agA t u e->SY t e=SY u e
 | ⟨kind,name,unit,n,fr,to,known,BX,kids,Ct⟩=>λh=>by
   rw[agA] at h;rw[SY,SY,gH hf hl hm kids h.2];exact acb hf hl hm h.1 _
def gH{t u:Tr}(hf:t.Ae.facts=u.Ae.facts)(hl:t.Ae.lines=u.Ae.lines)(hm:t.facts=u.facts):∀l:List Nd,qI t u l->We t l=We u l
 | []=>λ_=>by rw[We,We]
 | k::l=>λh=>by
   rw[qI] at h;rw[We,We,kR hf hl hm k h.1,gH hf hl hm l h.2]
end
mutual
def aG{t u:Tr}(hf:t.Ae.facts=u.Ae.facts)(hl:t.Ae.lines=u.Ae.lines)(hm:t.facts=u.facts):∀e:Nd,agA t u e->Sy t e->Sy u e
 | ⟨kind,name,unit,n,fr,to,known,BX,kids,Ct⟩=>λh=>by
   rw[agA] at h;rw[Sy,Sy,hf,hl,hm];rintro⟨s1,s2,s3,s4,s5,s6⟩;exact⟨s1,s2,s3,λk=>by rw[<- h.1 k];exact s4 k,s5,Yc hf hl hm kids h.2 s6⟩
def Yc{t u:Tr}(hf:t.Ae.facts=u.Ae.facts)(hl:t.Ae.lines=u.Ae.lines)(hm:t.facts=u.facts):∀l:List Nd,qI t u l->R2 t l->R2 u l
 | []=>λ_ _=>by rw[R2];trivial
 | k::l=>λh=>by
   rw[qI] at h;rw[R2,R2];exact λs=>⟨aG hf hl hm k h.1 s.1,Yc hf hl hm l h.2 s.2⟩
end
end Mo
end Go.Proofs.YtnijkdknnmgoeaaGreat
