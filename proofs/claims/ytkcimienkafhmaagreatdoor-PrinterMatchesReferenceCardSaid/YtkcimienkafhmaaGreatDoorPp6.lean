/- Part of a proof: see the last text. -/
import Derived.Test.YtkcimienkafhmaaGreatDoorPp5
set_option linter.all false
noncomputable section
set_option maxRecDepth 100000
open Array renaming ext'->bbW
open Bool renaming and_eq_true->aUR,eq_false_iff->bhT,eq_iff_iff->bbR,false_eq_true->bbC,true_and->bgX
open ByteArray renaming empty->VE
open Go.IntKind renaming bits->blY,i64->beR,signed->blE,wrap->blX
open Go.Lib renaming decDigits->bjQ,digitVal->bkG,indexByte->bgY,index_one->blQ,replaceK->bkH,replaceNum->blH
open Int renaming eq_ofNat_of_zero_le->bcD,le_of_lt->bkF,le_of_mul_le_mul_left->bhR,mul_comm->biN,mul_ediv_cancel_left->biC,mul_le_mul->blF,mul_le_mul_of_nonneg_left->bhF,mul_le_mul_of_nonneg_right->bdD,mul_nonneg->blG,mul_nonpos_of_nonneg_of_nonpos->bgF,natCast_add->bkV,ofNat_tdiv->bjE,ofNat_tmod->bjD,toNat_natCast->aUW
open List renaming all_cons->bfK,all_eq_true->bcC,cons_append->bcP,drop->beB,drop_drop->bbO,drop_eq_getElem_cons->beV,drop_eq_nil_of_le->bbX,drop_zero->bbQ,eq_nil_of_length_eq_zero->bbD,getElem?_cons_succ->bdV,getElem?_cons_zero->bbH,getElem?_eq_getElem->atS,getElem?_eq_none->bcK,getElem?_eq_some_iff->aHS,getElem?_of_mem->beI,head?_cons->bhG,head?_drop->bfJ,length->bfG,length_append->cZ,length_cons->amN,length_drop->aUZ,length_map->bcQ,length_nil->amO,length_pos_iff->bjI,length_singleton->bbK,length_take->bbT,map->biX,mem_append->bcE,mem_cons->bbG,mem_cons_of_mem->bbP,mem_cons_self->bbU,mem_map->bfI,mem_of_getElem?->aUV,mem_range->bcZ,mem_singleton->bbV,nil_append->bcY,not_mem_nil->bdO,range->bcB,range'->bjA,takeWhile_cons->beM,take_succ_cons->beA,toList_toArray->beL
open Nat renaming add_assoc->bdW,add_comm->bfH,add_zero->bcS,le_refl->aHT,le_succ->beC,le_trans->bbM,lt_of_lt_of_le->aUS,lt_or_ge->bdS,pow_succ->blZ,strongRecOn->beW,zero_add->aUU,zero_le->bcJ
open Option renaming bind->bbZ,bind_some->TC
open Option.some renaming inj->bbJ,injEq->aUQ
open Prod.mk renaming injEq->bbI
open Sum renaming elim->aHR,inl->bbL,inr->aHU
namespace Go.Proofs.YtkcimienkafhmaaGreatDoor
open AI Go
namespace Mo
set_option maxHeartbeats 4000000
variable {mx:Int}
def aYA(a b:Nd):Cv [a,b]=Cf a++Cf b:=by rw[oD];exact congrArg _ (List.append_nil _)
def aQS{a b x:Nd}{z:Int}(h:FI [a,b] z=some x):PC P (G mx):=Ej (t:=25) (a:=.sl .full 2 (Cf a++Cf b)) (b:=.sc (.int .i64 z)) (v:=.el (Cf x++Cv (beB (z.toNat+1) [a,b]))) (by rw[<- aYA];exact aQT .full h)
def LZ(n:Nd):Option (ByteArray×Int):=(Jg n).bind λy1=>cond y1 (cond (Bg n.kind 1) (some (VE,1)) ((Sk n).bind λy2=>(Hb y2).bind λ(Lc,Fa)=>some (Lc,Fa))) (some (VE,1))
def ZY{n:Nd}{yR:(ByteArray×Int)}(h:LZ  n=some yR):Pure P (G mx) 12 [.agg (Cf n)] (.DW [.sc (.string yR.1),.sc (.int .i64 yR.2)]):=by apply uM h Tryz.func12;exact tP (λBF=>tC (λBv=>tA rU .body) λBv=>tB λy2 CI=>tF [Au (iY CI)]<|Jy λLc Fa Fp=>tA rU .body) λBF=>tA rU .body
instance {n:Nd}:Ht P (G mx) (LZ n):=⟨λ_ h=>[Au (ZY h)]⟩
def Sl(n:Int):Option ByteArray:=cond (Bg n 1) (some WO) (cond (Bg n 2) (some PX) (cond (Bg n 3) (some Tz) (some Zc)))
def Z2{n:Int}{yR:ByteArray}(h:Sl  n=some yR):Pure P (G mx) 73 [.sc (.int .i64 n)] (.sc (.string yR)):=by apply uM h Tryz.func73;exact tC (λBv=>tA rU .body) λBv=>tC (λhb2=>tA rU .body) λhb2=>tC (λhb3=>tA rU .body) λhb3=>tA rU .body
def Xu(year:Int):Option Bool:=cond (Bg (KS year 4) 0) (cond (Bg (KS year 100) 0) (cond (Bg (KS year 400) 0) (some true) (some false)) (some true)) (some false)
def ZI{year:Int}{yR:Bool}(h:Xu  year=some yR):Pure P (G mx) 168 [.sc (.int .i64 year)] (.sc (.bool yR)):=by apply uM h Tryz.func168;exact tF [pk]<|tC (λBv=>tF [pk]<|tN (λhb2=>tF [pk]<|tC (λhb3=>tA rU .body) λhb3=>tA rU .body) λhb2=>tA rU .body) λBv=>tA rU .body
def LV(year:Int)(month:Int):Option Int:=cond (Bg month 4) (some 30) (cond (Bg month 6) (some 30) (cond (Bg month 9) (some 30) (cond (Bg month 11) (some 30) (cond (Bg month 2) ((Xu year).bind λy1=>cond y1 (some 29) (some 28)) (some 31)))))
def SK{year:Int}{month:Int}{yR:Int}(h:LV  year month=some yR):Pure P (G mx) 150 [.sc (.int .i64 year),.sc (.int .i64 month)] (.sc (.int .i64 yR)):=by apply uM h Tryz.func150;exact tC (λBv=>tA rU .body) λBv=>tC (λhb2=>tA rU .body) λhb2=>tC (λhb3=>tA rU .body) λhb3=>tC (λGY=>tA rU .body) λGY=>tC (λJc=>QU (λy1 BF=>[Au (ZI BF)]) (λBF=>tA rU .body) λBF=>tA rU .body) λJc=>tA rU .body
instance {year:Int}{month:Int}:Ht P (G mx) (LV year month):=⟨λ_ h=>[Au (SK h)]⟩
def aNM:Code:=Cc Tryz.f118
def HY(mX:Int)(EB:Int)(R5:Int):Option (Lp (Int×Int×Int) (Int×Int×Int) (Int×Int×Int)):=(LV EB R5).bind λy1=>cond (Lg y1 mX) (cond (CV 12 (Ba R5 1)) (some (.nx ((A2 mX y1),(Ba EB 1),1))) (some (.nx ((A2 mX y1),EB,(Ba R5 1))))) (some (.ex (mX,EB,R5)))
def Oq(day:Int):Option (Int×Int×Int):=cond (CV day 0) (some (0,0,0)) (cond (CV 36524 day) (some (0,0,0)) ((IT (λx=>HY   x.1 x.2.1 x.2.2) (day,2000,1)).bind (GF (λ((akS,afA,sO):(Int×Int×Int))=>some (afA,sO,(Ba akS 1))) (λv=>some v))))
def ZH{day:Int}{yR:(Int×Int×Int)}(h:Oq  day=some yR):Pure P (G mx) 118 [.sc (.int .i64 day)] (.DW [.sc (.int .i64 yR.1),.sc (.int .i64 yR.2.1),.sc (.int .i64 yR.2.2)]):=by apply uM h Tryz.func118;exact tC (λBv=>tA rU .body) λBv=>tC (λhb2=>tA rU .body) λhb2=>U4 (λv=>some v) 33 [8,9,11,12,17,26] [8,9,11,12,17,26] (λ((mX,EB,R5):(Int×Int×Int))=>[(0,.sc (.int .i64 mX)),(5,.sc (.int .i64 EB)),(6,.sc (.int .i64 R5))]) (λ((mX,EB,R5):(Int×Int×Int))=>⟨[],0,[],0⟩) [] [] 0 (sb aNM 248) [.code (sb aNM 63)] (λ_=>rU) Ma (λ_ ⟨mX,EB,R5⟩ j0=>show T _ (HY   mX EB R5) _ from tH λy1 BF=>tC (λhb3=>tF [Au (SK BF),pk,pk]<|tC (λGY=>tF [pk]<|NV rU id) λGY=>NV rU id) λhb3=>S2 rU id) λ⟨akS,afA,sO⟩ ZD=>tF [pk]<|tA rB .body
def IQ(n:Int):Option ByteArray:=some (uY [(w8 (Ba 48 (L7 n 10))),(w8 (Ba 48 (KS n 10)))])
def eY{n:Int}{yR:ByteArray}(h:IQ  n=some yR):Pure P (G mx) 119 [.sc (.int .i64 n)] (.sc (.string yR)):=by apply uM h Tryz.func119;exact tF [pk,pk,pk,pk,pcv (xB .full [(w8 (Ba 48 (L7 n 10))),(w8 (Ba 48 (KS n 10)))])]<|tA rU .body
instance {n:Int}:Ht P (G mx) (IQ n):=⟨λ_ h=>[Au (eY h)]⟩
def Ft(day:Int):Option ByteArray:=(Oq day).bind λ(DX,Bk,y1c)=>cond (Bg DX 0) (some VE) ((IQ (L7 DX 100)).bind λy2=>(IQ (KS DX 100)).bind λy3=>B6 (y2.data.toList.length+y3.data.toList.length) (B6 ((y2++y3).data.toList.length+Em.data.toList.length) ((IQ Bk).bind λy6=>B6 (((y2++y3)++Em).data.toList.length+y6.data.toList.length) (B6 ((((y2++y3)++Em)++y6).data.toList.length+Em.data.toList.length) ((IQ y1c).bind λy9=>B6 (((((y2++y3)++Em)++y6)++Em).data.toList.length+y9.data.toList.length) (some (((((y2++y3)++Em)++y6)++Em)++y9)))))))
def ZJ{day:Int}{yR:ByteArray}(h:Ft  day=some yR):Pure P (G mx) 74 [.sc (.int .i64 day)] (.sc (.string yR)):=by apply uM h Tryz.func74;exact tW3 λDX Bk y1c BF=>tF [Au (ZH BF)]<|tC (λBv=>tA rU .body) λBv=>tF [pk]<|tH λy2 CI=>tF [pk]<|tH λy3 Fp=>tL λdG=>tF [AN (A4 dG (.tmp 16) (.tmp 19))]<|tL λhl5=>tF [AN (A4 hl5 (.tmp 20) (.const (.string Em)))]<|tH λy6 Mi=>tL λvY=>tF [AN (A4 vY (.tmp 21) (.tmp 23))]<|tL λxX=>tF [AN (A4 xX (.tmp 24) (.const (.string Em)))]<|tH λy9 TF=>tL λhl10=>tF [AN (A4 hl10 (.tmp 25) (.tmp 27))]<|tA rU .body
instance {day:Int}:Ht P (G mx) (Ft day):=⟨λ_ h=>[Au (ZJ h)]⟩
def B34:Code:=Cc Tryz.f34
def Jh(i0:Nat)(e0:Nd)(s4:ByteArray):Option (Lp ByteArray ByteArray ByteArray):=cond (Bg e0.kind 6) (B6 (s4.data.toList.length+Gv.data.toList.length) ((Kh e0.kids).bind λy35=>B6 ((s4++Gv).data.toList.length+y35.data.toList.length) (B6 (((s4++Gv)++y35).data.toList.length+EL.data.toList.length) (some (.nx (((s4++Gv)++y35)++EL)))))) (cond (Bg e0.kind 7) (B6 (s4.data.toList.length+Ev.data.toList.length) ((Kh e0.kids).bind λy39=>B6 ((s4++Ev).data.toList.length+y39.data.toList.length) (B6 (((s4++Ev)++y39).data.toList.length+EL.data.toList.length) (some (.nx (((s4++Ev)++y39)++EL)))))) (B6 (s4.data.toList.length+Eu.data.toList.length) ((Kh e0.kids).bind λy43=>B6 ((s4++Eu).data.toList.length+y43.data.toList.length) (B6 (((s4++Eu)++y43).data.toList.length+EL.data.toList.length) (some (.nx (((s4++Eu)++y43)++EL)))))))
def Oy(n:Nd):Option ByteArray:=cond (Bg n.kind 2) (B6 (DO.data.toList.length+n.name.data.toList.length) (B6 ((DO++n.name).data.toList.length+A5.data.toList.length) (B6 (((DO++n.name)++A5).data.toList.length+n.unit.data.toList.length) (B6 ((((DO++n.name)++A5)++n.unit).data.toList.length+EL.data.toList.length) (some ((((DO++n.name)++A5)++n.unit)++EL)))))) (cond (Bg n.kind 3) (B6 (CC.data.toList.length+n.name.data.toList.length) (B6 ((CC++n.name).data.toList.length+A5.data.toList.length) (B6 (((CC++n.name)++A5).data.toList.length+n.unit.data.toList.length) (B6 ((((CC++n.name)++A5)++n.unit).data.toList.length+CJ.data.toList.length) ((Sl n.n).bind λy9=>B6 (((((CC++n.name)++A5)++n.unit)++CJ).data.toList.length+y9.data.toList.length) (B6 ((((((CC++n.name)++A5)++n.unit)++CJ)++y9).data.toList.length+EL.data.toList.length) (some ((((((CC++n.name)++A5)++n.unit)++CJ)++y9)++EL)))))))) ((n.kids[0]?).bind λx12=>(BJ n.n).bind λUe=>B6 (AE.data.toList.length+Ue.data.toList.length) (B6 ((AE++Ue).data.toList.length+BK.data.toList.length) (B6 (((AE++Ue)++BK).data.toList.length+n.name.data.toList.length) (B6 ((((AE++Ue)++BK)++n.name).data.toList.length+BI.data.toList.length) ((BJ x12.n).bind λaA=>B6 (((((AE++Ue)++BK)++n.name)++BI).data.toList.length+aA.data.toList.length) (B6 ((((((AE++Ue)++BK)++n.name)++BI)++aA).data.toList.length+B2.data.toList.length) ((Ft x12.fr).bind λlX=>B6 (((((((AE++Ue)++BK)++n.name)++BI)++aA)++B2).data.toList.length+lX.data.toList.length) (cond (Bg x12.to 36525) (B6 ((((((((AE++Ue)++BK)++n.name)++BI)++aA)++B2)++lX).data.toList.length+Bt.data.toList.length) ((Ft x12.known).bind λgX=>B6 (((((((((AE++Ue)++BK)++n.name)++BI)++aA)++B2)++lX)++Bt).data.toList.length+gX.data.toList.length) (B6 ((((((((((AE++Ue)++BK)++n.name)++BI)++aA)++B2)++lX)++Bt)++gX).data.toList.length+ID.data.toList.length) ((B6 n.kids.length (Bu (λi y x=>Jh   i y x) (λx=>x) (n.kids.drop 1) 1 ((((((((((AE++Ue)++BK)++n.name)++BI)++aA)++B2)++lX)++Bt)++gX)++ID))).bind (GF (λ(arA:ByteArray)=>B6 (arA.data.toList.length+NO.data.toList.length) (some (arA++NO))) (λv=>some v)))))) (B6 ((((((((AE++Ue)++BK)++n.name)++BI)++aA)++B2)++lX).data.toList.length+GK.data.toList.length) ((Ft x12.to).bind λy28=>B6 (((((((((AE++Ue)++BK)++n.name)++BI)++aA)++B2)++lX)++GK).data.toList.length+y28.data.toList.length) (B6 ((((((((((AE++Ue)++BK)++n.name)++BI)++aA)++B2)++lX)++GK)++y28).data.toList.length+Bt.data.toList.length) ((Ft x12.known).bind λy31=>B6 (((((((((((AE++Ue)++BK)++n.name)++BI)++aA)++B2)++lX)++GK)++y28)++Bt).data.toList.length+y31.data.toList.length) (B6 ((((((((((((AE++Ue)++BK)++n.name)++BI)++aA)++B2)++lX)++GK)++y28)++Bt)++y31).data.toList.length+ID.data.toList.length) ((B6 n.kids.length (Bu (λi y x=>Jh   i y x) (λx=>x) (n.kids.drop 1) 1 ((((((((((((AE++Ue)++BK)++n.name)++BI)++aA)++B2)++lX)++GK)++y28)++Bt)++y31)++ID))).bind (GF (λ(arB:ByteArray)=>B6 (arB.data.toList.length+NO.data.toList.length) (some (arB++NO))) (λv=>some v)))))))))))))))))
def ZZ{n:Nd}{yR:ByteArray}(h:Oy  n=some yR):Pure P (G mx) 34 [.agg (Cf n)] (.sc (.string yR)):=by apply uM h Tryz.func34;exact tC (λBv=>tL λkF=>tF [AN (A4 kF (.const (.string DO)) (.tmp 12))]<|tL λhl2=>tF [AN (A4 hl2 (.tmp 13) (.const (.string A5)))]<|tL λvW=>tF [AN (A4 vW (.tmp 14) (.tmp 16))]<|tL λdG=>tF [AN (A4 dG (.tmp 17) (.const (.string EL)))]<|tA rU .body) λBv=>tC (λhb2=>tL λhl5=>tF [AN (A4 hl5 (.const (.string CC)) (.tmp 22))]<|tL λvX=>tF [AN (A4 vX (.tmp 23) (.const (.string A5)))]<|tL λvY=>tF [AN (A4 vY (.tmp 24) (.tmp 26))]<|tL λxX=>tF [AN (A4 xX (.tmp 27) (.const (.string CJ)))]<|tB λy9 TF=>tF [Au (Z2 TF)]<|tL λhl10=>tF [AN (A4 hl10 (.tmp 28) (.tmp 31))]<|tL λZA=>tF [AN (A4 ZA (.tmp 32) (.const (.string EL)))]<|tA rU .body) λhb2=>tB λx12 aIW=>tF [Ej (Cz .lost aIW)]<|tH λUe Qv=>tL λdF=>tF [AN (A4 dF (.const (.string AE)) (.tmp 40))]<|tL λxQ=>tF [AN (A4 xQ (.tmp 41) (.const (.string BK)))]<|tL λxR=>tF [AN (A4 xR (.tmp 42) (.tmp 44))]<|tL λamY=>tF [AN (A4 amY (.tmp 45) (.const (.string BI)))]<|tH λaA W1=>tL λnL=>tF [AN (A4 nL (.tmp 46) (.tmp 49))]<|tL λamZ=>tF [AN (A4 amZ (.tmp 50) (.const (.string B2)))]<|tH λlX W2=>tL λxT=>tF [AN (A4 xT (.tmp 51) (.tmp 54))]<|tN (λhb3=>tL λaVP=>tF [AN (A4 aVP (.tmp 65) (.const (.string Bt)))]<|tH λgX Yf=>tL λaIC=>tF [AN (A4 aIC (.tmp 66) (.tmp 69))]<|tL λanA=>tF [AN (A4 anA (.tmp 70) (.const (.string ID)))]<|L6 (λv=>some v) 107 [9,10,19,20,58,76,85,92] [9,10,19,20,58,76,85,92] (λ(i0:Nat)(s4:ByteArray)=>[(1,.ptr 0 0),(4,.sc (.string s4)),(5,.sc (.int .i64 ((i0:Nat):Int)))]) (λ(s4:ByteArray)=>⟨[(1,.cells (Cf x12)),(0,.cells (Cf n))],2,[],0⟩) [1,5] [] 1 (sb B34 2036) [.code (sb B34 255)] (λ_=>rU) Ma (λ_ i0 e0 s4 j0 Hx J2 Hg=>tF [pb (TK J2),Ej (Cz .lost Hx)]<|tC (λGY=>tF [Ej (Cz .lost Hx),pb (B:=Bg e0.kind 7) (b:=false) (by rw[DS GY];rfl)]<|tL λnN=>tF [AN (A4 nN (.tmp 93) (.tmp 94)),Ej (Cz .lost Hx)]<|tH λy35 aJF=>tL λxW=>tF [AN (A4 xW (.tmp 95) (.tmp 102))]<|tL λanE=>tF [AN (A4 anE (.tmp 103) (.const (.string EL))),pi Hg]<|NV rU id) λGY=>tF [Ej (Cz .lost Hx)]<|tC (λJc=>tL λanF=>tF [AN (A4 anF (.tmp 93) (.tmp 94)),Ej (Cz .lost Hx)]<|tH λy39 agK=>tL λaIG=>tF [AN (A4 aIG (.tmp 95) (.tmp 102))]<|tL λanG=>tF [AN (A4 anG (.tmp 103) (.const (.string EL))),pi Hg]<|NV rU id) λJc=>tL λanH=>tF [AN (A4 anH (.tmp 93) (.tmp 94)),Ej (Cz .lost Hx)]<|tH λy43 awQ=>tL λanI=>tF [AN (A4 anI (.tmp 95) (.tmp 102))]<|tL λaIH=>tF [AN (A4 aIH (.tmp 103) (.const (.string EL))),pi Hg]<|NV rU id) λarA baA=>tL λaVS=>tF [AN (A4 aVS (.tmp 105) (.const (.string NO)))]<|tA rB .body) λhb3=>tL λxU=>tF [AN (A4 xU (.tmp 59) (.const (.string GK)))]<|tH λy28 nW=>tL λaID=>tF [AN (A4 aID (.tmp 60) (.tmp 63))]<|tL λaIE=>tF [AN (A4 aIE (.tmp 65) (.const (.string Bt)))]<|tH λy31 awN=>tL λaIF=>tF [AN (A4 aIF (.tmp 66) (.tmp 69))]<|tL λanD=>tF [AN (A4 anD (.tmp 70) (.const (.string ID)))]<|L6 (λv=>some v) 107 [9,10,19,20,58,76,85,92] [9,10,19,20,58,76,85,92] (λ(i0:Nat)(s4:ByteArray)=>[(1,.ptr 0 0),(4,.sc (.string s4)),(5,.sc (.int .i64 ((i0:Nat):Int)))]) (λ(s4:ByteArray)=>⟨[(1,.cells (Cf x12)),(0,.cells (Cf n))],2,[],0⟩) [1,5] [] 1 (sb B34 2036) [.code (sb B34 255)] (λ_=>rU) Ma (λ_ i0 e0 s4 j0 Hx J2 Hg=>tF [pb (TK J2),Ej (Cz .lost Hx)]<|tC (λGY=>tF [Ej (Cz .lost Hx),pb (B:=Bg e0.kind 7) (b:=false) (by rw[DS GY];rfl)]<|tL λnN=>tF [AN (A4 nN (.tmp 93) (.tmp 94)),Ej (Cz .lost Hx)]<|tH λy35 aJF=>tL λxW=>tF [AN (A4 xW (.tmp 95) (.tmp 102))]<|tL λanE=>tF [AN (A4 anE (.tmp 103) (.const (.string EL))),pi Hg]<|NV rU id) λGY=>tF [Ej (Cz .lost Hx)]<|tC (λJc=>tL λanF=>tF [AN (A4 anF (.tmp 93) (.tmp 94)),Ej (Cz .lost Hx)]<|tH λy39 agK=>tL λaIG=>tF [AN (A4 aIG (.tmp 95) (.tmp 102))]<|tL λanG=>tF [AN (A4 anG (.tmp 103) (.const (.string EL))),pi Hg]<|NV rU id) λJc=>tL λanH=>tF [AN (A4 anH (.tmp 93) (.tmp 94)),Ej (Cz .lost Hx)]<|tH λy43 awQ=>tL λanI=>tF [AN (A4 anI (.tmp 95) (.tmp 102))]<|tL λaIH=>tF [AN (A4 aIH (.tmp 103) (.const (.string EL))),pi Hg]<|NV rU id) λarB baB=>tL λaII=>tF [AN (A4 aII (.tmp 105) (.const (.string NO)))]<|tA rB .body
def B14:Code:=Cc Tryz.f14
def NQ(i0:Nat)(e0:Nd)(s5:ByteArray):Option (Lp ByteArray ByteArray (ByteArray×Int)):=(Oy e0).bind λy2=>B6 (s5.data.toList.length+y2.data.toList.length) (some (.nx (s5++y2)))
def JY(n:Nd):Option (ByteArray×Int):=(Jg n).bind λy1=>cond y1 (cond (Bg n.kind 1) ((B6 n.kids.length (Bu (λi y x=>NQ   i y x) (λx=>x) (n.kids.drop 0) 0 VE)).bind (GF (λ(aSH:ByteArray)=>(Hb aSH).bind λ(Qh,IK)=>some (Qh,IK)) (λv=>some v))) (some (VE,1))) (some (VE,1))
def Xz{n:Nd}{yR:(ByteArray×Int)}(h:JY  n=some yR):Pure P (G mx) 14 [.agg (Cf n)] (.DW [.sc (.string yR.1),.sc (.int .i64 yR.2)]):=by apply uM h Tryz.func14;exact tP (λBF=>tN (λBv=>L6 (λv=>some v) 35 [4,8,9,10,11,14,15,20] [4,8,9,10,11,14,15,20] (λ(i0:Nat)(s5:ByteArray)=>[(1,.ptr 0 0),(5,.sc (.string s5)),(6,.sc (.int .i64 ((i0:Nat):Int)))]) (λ(s5:ByteArray)=>⟨[(0,.cells (Cf n))],1,[],0⟩) [1,6] [] 0 (sb B14 500) [.code (sb B14 63)] (λ_=>rU) Ma (λ_ i0 e0 s5 j0 Hx J2 Hg=>tF [pb (TK J2),Ej (Cz .lost Hx)]<|tB λy2 CI=>tF [Au (ZZ CI)]<|tL λvW=>tF [AN (A4 vW (.tmp 23) (.tmp 29)),pi Hg]<|NV rU id) λaSH awX=>Jy λQh IK IM=>tA rB .body) λBv=>tA rU .body) λBF=>tA rU .body
instance {n:Nd}:Ht P (G mx) (JY n):=⟨λ_ h=>[Au (Xz h)]⟩
def B3:Code:=Cc Tryz.f3
def Bz(n:Nd)(m:Nd)(up5:Bool)(Qb:Int):Option (Lp (Bool×Int) Bool Bool):=cond (CV Qb 2) ((FI [n,m] Qb).bind λpC=>(M6 pC).bind λgW=>cond gW ((IB pC).bind λ(jH,jI)=>(LZ pC).bind λ(jJ,Z9)=>(A8 pC).bind λ(aaO,aaP)=>(JY pC).bind λ(XU,RH)=>cond up5 (cond (BE jH.data.toList jJ.data.toList) (cond (Bg jI Z9) (cond (BE aaO.data.toList XU.data.toList) (cond (Bg aaP RH) (some (.nx (true,(Ba Qb 1)))) (some (.nx (false,(Ba Qb 1))))) (some (.nx (false,(Ba Qb 1))))) (some (.nx (false,(Ba Qb 1))))) (some (.nx (false,(Ba Qb 1))))) (some (.nx (false,(Ba Qb 1))))) (some (.nx (up5,(Ba Qb 1))))) (some (.ex up5))
def Dt(n:Nd)(m:Nd):Option Bool:=(IU).bind λy1=>(IT (λx=>Bz  n m x.1 x.2) (true,0)).bind (GF (λ(atD:Bool)=>some atD) (λv=>some v))
def K5{n:Nd}{m:Nd}{yR:Bool}(h:Dt  n m=some yR):Pure P (G mx) 3 [.agg (Cf n),.agg (Cf m)] (.sc (.bool yR)):=by apply uM h Tryz.func3;exact tH λy1 BF=>tIo (λv=>some v) 73 [4,8,17,23,27,28,29,50,51,54,55,56,59,60,61,64,65,66,69,70,72] [4,8,17,23,27,28,29,50,51,54,55,56,59,60,61,64,65,66,69,70,72] (λ((up5,Qb):(Bool×Int))=>[(5,.sc (.bool up5)),(20,.sl .full 2 [.sc (.int .i64 n.kind),.sc (.string n.name),.sc (.string n.unit),.sc (.int .i64 n.n),.sc (.int .i64 n.fr),.sc (.int .i64 n.to),.sc (.int .i64 n.known),.sc (.int .i64 n.Cg.den),.sl .lost n.Cg.ps.length (rows Uv n.Cg.ps),.sl .lost n.kids.length (Cv n.kids),.sc (.int .i64 n.BH),.sc (.int .i64 m.kind),.sc (.string m.name),.sc (.string m.unit),.sc (.int .i64 m.n),.sc (.int .i64 m.fr),.sc (.int .i64 m.to),.sc (.int .i64 m.known),.sc (.int .i64 m.Cg.den),.sl .lost m.Cg.ps.length (rows Uv m.Cg.ps),.sl .lost m.kids.length (Cv m.kids),.sc (.int .i64 m.BH)]),(21,.sc (.int .i64 2)),(22,.sc (.int .i64 Qb))]) (λ((up5,Qb):(Bool×Int))=>⟨[(1,.cells (Cf m)),(0,.cells (Cf n))],2,[],0⟩) (λ(up5:Bool)=>[(5,.sc (.bool up5))]) (λ(up5:Bool)=>⟨[(1,.cells (Cf m)),(0,.cells (Cf n))],2,[],0⟩) [] 0 (sb B3 116) [.code (sb B3 15)] (λ_=>rU) Ma (λ_ ⟨up5,Qb⟩ j0=>show T _ (Bz  n m up5 Qb) _ from tC (λLu=>tB λpC anS=>tF [aQS anS]<|tP (λSS=>Jy λjH jI ZB=>Jy λjJ Z9 Ye=>Jy λaaO aaP W1=>Jy λXU RH ZC=>(by cases up5 with | true=>exact YK<|tC (λM5=>tC (λRX=>tC (λTC=>tC (λVE=>tF [pk]<|tX rU id) λVE=>tF [pk]<|tX rU id) λTC=>tF [pk]<|tX rU id) λRX=>tF [pk]<|tX rU id) λM5=>tF [pk]<|tX rU id | false=>exact YJ<|tF [pk]<|tX rU id)) λSS=>tF [pk]<|tX rU id) λLu=>S2 rU id) λatD aZV=>tA rB .body
end Mo
end Go.Proofs.YtkcimienkafhmaaGreatDoor
namespace Go.Proofs.YtkcimienkafhmaaGreatDoor
open AI Go
namespace Mo
set_option maxHeartbeats 4000000
def iG(s:ByteArray):Prop:=s.data.toList.length=3/\∀c∈s.data.toList,65<=c.toNat/\c.toNat<=90
def KP(s:ByteArray):Prop:=s=Ey\/s=CW\/s=Dw\/iG s
def lW(c:UInt8):Prop:=(97<=c.toNat/\c.toNat<=122)\/(48<=c.toNat/\c.toNat<=57)\/c.toNat=95
def acC:List ByteArray:=[PZ,LJ,E4,iI,Xs,WT,toS,O0,Vl,MW,Lz,Ey,CW,Dw,sM,WO,PX,Tz,Zc,kZ,QY,UO,jQ,SN,NB,bU,Hw,WK,LN,Qi,Jl,EP,MD]
def KB(s:ByteArray):Prop:=(1<=s.data.toList.length/\s.data.toList.length<=16)/\(∃b,s.data.toList[0]?=some b/\97<=b.toNat/\b.toNat<=122)/\s∉acC/\∀c∈s.data.toList,lW c
def QA{n:Nd}(h:F6 n):n.Cg.ps.length<=9223372036854775807/\n.kids.length<=9223372036854775807/\∀k∈n.kids,F6 k:=by obtain⟨a,b,c⟩:=(TO n).1 h;exact⟨a.1,b,c⟩
def VK{α:Type}{l:List α}{P:α->Prop}:(∀(i:Nat)(y:α),l[i]?=some y->P y)↔∀y∈l,P y :=
 ⟨λh y hy=>(beI hy).elim λi hi=>h i y hi,λh i y hi=>h y (aUV hi)⟩
def aoC(s:ByteArray):Ip s=some (mb (s∈acC)):=by rw[Ip];simp only[FW,B9,LK,axL];refine Sv ?_;simp only[acC,bbG,bdO,or_false]
def aDY(s:ByteArray):s=VE↔s.data.toList.length=0:=by constructor;intro h;rw[h];rfl;intro h;apply ByteArray.ext;apply bbW;rw[bbD h];rfl
def abR(s:ByteArray):D1 s=some (mb (KB s)):=by
 rw[D1];simp only[FW,HV,B9,aoC,TC];unfold KB;by_cases h0:s=VE;rw[Aq h0];exact NT λh=>by have:=(aDY s).1 h0;omega
 have h1:s.data.toList.length≠0:=λh=>h0 ((aDY s).2 h);rw[Ar h0];by_cases h2:16 < ((s.data.toList.length:Nat):Int);rw[Aq h2];exact NT λh=>by omega
 rw[Ar h2];obtain⟨b,hb⟩:∃b,s.data.toList[0]?=some b:=⟨_,atS (by omega)⟩
 rw[hb,OY (v:=false) (P:=λ_ y=>lW y) (by omega) (λi y _=>by
  simp only[O6,HV,BT,B9,sD,aoB,agN,aJR,agO,aXX,aQX];congr 2;unfold lW;apply propext;omega)]
 simp only[TC,LK,aRH,VK];refine Sv ?_;constructor;rintro⟨h3,h4,h5,h6⟩;exact⟨by omega,⟨b,rfl,by omega⟩,h5,h6⟩;rintro⟨h3,⟨c,hc,h4⟩,h5,h6⟩;cases hc;exact⟨by omega,by omega,h5,h6⟩
def aKQ(s:ByteArray):J7 s=some (mb (iG s)):=by
 rw[J7,BT,B9];unfold iG;by_cases h:((s.data.toList.length:Nat):Int)=3
 rw[Aq h,OY (v:=false) (P:=λ_ y=>65<=y.toNat/\y.toNat<=90) (by omega) (λi y _=>by
  simp only[P5,HV,B9,agN,agO];congr 2;apply propext;omega),LK,VK]
 exact Sv ⟨λh2=>⟨by omega,h2⟩,λh2=>h2.2⟩;rw[Ar h];exact NT λh2=>h (by omega)
def adD(s:ByteArray):EI s=some (mb (KP s)):=by rw[EI];simp only[FW,B9,aKQ,TC,axL];rfl
def I0(n:Int):Prop:=1<=n/\n<=1000000
def Xm(n:Int):Dy n=some (mb (I0 n)):=by rw[Dy];simp only[FY,B9,LK,Il];rfl
def X5(n:Int):Prop:=0<=n/\n<=36524
def X9(s:ByteArray):Prop:=s=Hw\/s=WK\/s=LN\/s=Qi
def aqB(s:ByteArray):Ig s=some (mb (X9 s)):=by rw[Ig];simp only[FW,B9,LK,axL];rfl
def aqE(a b:List Pc)(ha:a.length<=9223372036854775807):Oa a b=some (mb (a=b)):=by
 rw[Oa,BT,B9];by_cases h:((a.length:Nat):Int)=((b.length:Nat):Int)
 rw[Aq h,OY (v:=false) (P:=λi y=>b[i]?=some y) ha (λi y hy=>by
  have hi:i < a.length:=(aHS.1 hy).1;have hb:b[i]?=some b[i]:=atS (by omega);simp only[Vc];rw[hb];simp only[TC]
  have hs:YD y b[i]=mb (b[i]?=some y):=by rw[bbR,Ch,hb];unfold YD;simp only[aUR,Tw,beq_iff_eq,aUQ];generalize b[i]=z;cases y;cases z;simp only[Pc.mk.injEq];grind
  rw[hs,B9,sD,hb]),LK]
 refine Sv ⟨λh2=>?_,λh2 i y hy=>by rw[<- h2];exact hy⟩;apply List.ext_getElem?;intro i;by_cases hi:i < a.length;rw[atS hi,h2 i _ (atS hi)];rw[bcK (by omega),bcK (by omega)];rw[Ar h];exact NT λh2=>h (by rw[h2])
def F4(n f:Nd):Prop:=n.name=f.name/\n.unit=f.unit/\n.n=f.n/\n.fr=f.fr/\n.to=f.to/\n.known=f.known/\n.Cg.den=f.Cg.den/\n.Cg.ps=f.Cg.ps
def bW(n f:Nd)(h:n.Cg.ps.length<=9223372036854775807):BZ n f=some (mb (F4 n f)):=by rw[BZ,aqE _ _ h];simp only[FW,BT,B9,TC,Il];rfl
def yP{p:Prop}(h:¬p):mb p=false:=by rw[Zj];exact h
def Out(r:Option (Bool×Int))(P:Prop)(t:Int):Prop:=∃z,r=some (mb P,z)/\(P->z=t)
def Out.congr{r:Option (Bool×Int)}{P Q:Prop}{t u:Int}(h:Out r P t)(hp:P↔Q)(ht:Q->t=u):Out r Q u:=by obtain⟨z,h1,h2⟩:=h;exact⟨z,by rw[h1,LM hp],λq=>(h2 (hp.2 q)).trans (ht q)⟩
def Ks{Q:Prop}{z u:Int}(h:¬Q):Out (some (false,z)) Q u:=⟨z,by rw[yP h],λq=>absurd q h⟩
def Xe{P Q:Prop}{u:Int}(h:P↔Q):Out (some (mb P,u)) Q u:=⟨u,by rw[LM h],λ_=>rfl⟩
def Ie{p Q:Prop}{A:Option (Bool×Int)}{z u:Int}(h:p->Out A Q u)(hq:Q->p):Out (FX p A (some (false,z))) Q u:=by by_cases hp:p;rw[Aq hp];exact h hp;rw[Ar hp];exact Ks λq=>hp (hq q)
def sW{p Q:Prop}{A:Option (Bool×Int)}{z u:Int}(h:¬p->Out A Q u)(hq:Q->¬p):Out (FX p (some (false,z)) A) Q u:=by by_cases hp:p;rw[Aq hp];exact Ks λq=>hq q hp;rw[Ar hp];exact h hp
mutual
def Ds:Nd->Nat
 |⟨_,_,_,_,_,_,_,_,kids,_⟩=>1+H9 kids
def H9:List Nd->Nat
 |[]=>0
 |k::ks=>Ds k+H9 ks
end
mutual
def Ob:Nd->Nat
 |⟨_,_,_,_,_,_,_,_,kids,_⟩=>1+vT kids
def vT:List Nd->Nat
 |[]=>0
 |k::ks=>max (Ob k) (vT ks)
end
def CS(n:Nd):Ds n=1+H9 n.kids:=by cases n;rw[Ds]
def Qm(n:Nd):Ob n=1+vT n.kids:=by cases n;rw[Ob]
def X8{l:List Nd}{m:Nat}:vT l<=m↔∀k∈l,Ob k<=m:=by induction l with|nil=>simp[vT]|cons a l ih=>simp only[vT,Nat.max_le,ih,bbG,forall_eq_or_imp]
def Fx{l:List Nd}{k:Nd}(h:k∈l):Ds k<=H9 l:=by
 induction l with
 |nil=>cases h
 |cons a l ih=>
  rw[H9];rcases bbG.1 h with rfl | h
  omega;have:=ih h;omega
def Kj(l:List Nd):l.length<=H9 l:=by induction l with|nil=>simp[H9]|cons a l ih=>rw[H9,CS];simp only[amN];omega
def Qa{n k:Nd}(h:k∈n.kids):Ds k < Ds n:=by rw[CS n];have:=Fx h;omega
def Tj{g:Ck->Nd->Int->Option (Bool×Int)}{p:Nd->Prop}{d:Int}:∀{l:List Nd}{i:Nat}{c:Int},0<=c->c<=2000->(∀k∈l,∀c:Int,0<=c->c<=2000->Out (g ⟨c⟩ k d) (p k/\c+Ds k<=2000/\d+Ob k<=41) (c+Ds k)) ->
 Out ((Bu (δ:=Int) (ρ:=Bool×Int) (λ_ y (x:Int)=>(g ⟨x⟩ y d).bind λ(DX,Bk)=>cond DX (some (.nx Bk)) (some (.rt (false,Bk)))) (λx=>x) l i c).bind (GF (λ(w:Int)=>some (true,w)) (λv=>some v)))
   ((∀k∈l,p k/\d+Ob k<=41)/\c+H9 l<=2000) (c+H9 l)
 |[],i,c,h0,h1,_=>⟨c,by rw[Ch.2 ⟨λk hk=>(by cases hk),by simp only[H9];omega⟩];rfl,λ_=>by simp[H9]⟩
 |y::l,i,c,h0,h1,hg=>by
  obtain⟨z,hz,h2⟩:=hg y (by simp) c h0 h1;rw[Bu,hz];simp only[TC];by_cases hp:p y/\c+Ds y<=2000/\d+Ob y<=41;rw[Ch.2 hp,h2 hp];show Out ((Bu _ _ l (i+1) (c+Ds y)).bind _) _ _;refine(Tj (l:=l) (i:=i+1) (c:=c+Ds y) (by omega) hp.2.1 λk hk=>hg k (by simp[hk])).congr ?_ ?_;rw[H9];simp only[bbG,forall_eq_or_imp,bkV];constructor;rintro⟨a,b⟩;exact⟨⟨⟨hp.1,hp.2.2⟩,a⟩,by omega⟩;rintro⟨⟨_,a⟩,b⟩;exact⟨a,by omega⟩;intro _;rw[H9];omega;rw[yP hp];refine⟨z,?_,λq=>?_⟩;show some (false,z)=_;rw[yP];rintro⟨a,b⟩;rw[H9] at b;have:=a y (by simp);exact hp ⟨this.1,by omega,this.2⟩;exfalso;obtain⟨a,b⟩:=q;rw[H9] at b;have:=a y (by simp);exact hp ⟨this.1,by omega,this.2⟩
def eJ(n:Nd){c d:Int}(h0:0<=c)(h1:c<=2000):Out (Cq ⟨c⟩ n d) (c+1<=2000/\d<=40) (c+1):=by rw[Cq,BS (by show _<=c+1/\c+1<=_;omega)];simp only[FY,B9,TC];by_cases h:c+1<=2000;rw[Aq h];exact Xe ⟨λa=>⟨h,a⟩,λa=>a.2⟩;rw[Ar h];exact Ks λa=>h a.1
def Xk(f:Fn)(i:Nat)(p:Pc):Prop:=p.fr<=999999999999/\(∀q,0 < i->f.ps[i - 1]?=some q->q.fr < p.fr)/\WN p.BH f.den=some 0/\p.BH<=CE 999999999999 f.den/\CE (-999999999999) f.den<=p.BH/\p.C7<=1000000/\-1000000<=p.C7
def Z6(f:Fn):Prop:=I0 f.den/\(1<=f.ps.length/\f.ps.length<=64)/\(∀x,f.ps[0]?=some x->x.fr=0)/\∀(i:Nat) p,f.ps[i]?=some p->Xk f i p
def aSQ(f:Fn)(hl:f.ps.length<=9223372036854775807):IV f=some (mb (Z6 f)):=by
 rw[IV,Xm];simp only[TC,B9,HV,BT];unfold Z6;by_cases hr:I0 f.den;rotate_left;rw[Ar hr];exact NT λh=>hr h.1;rw[Aq hr];by_cases h1:((f.ps.length:Nat):Int) < 1;rw[Aq h1];exact NT λh=>by omega
 rw[Ar h1];by_cases h2:64 < ((f.ps.length:Nat):Int);rw[Aq h2];exact NT λh=>by omega
 rw[Ar h2];have hx0:f.ps[0]?=some f.ps[0]:=atS (by omega);rw[hx0];simp only[TC];by_cases h3:f.ps[0].fr=0;rotate_left;rw[Ar h3];exact NT λh=>h3 (h.2.2.1 _ rfl);rw[Aq h3];have awK:f.den≠0:=by unfold I0 at hr;omega
 rw[OY (v:=false) (P:=λi y=>Xk f i y) hl (λi y hy=>by
  have hi:i < f.ps.length:=(aHS.1 hy).1;simp only[N2,HV,B9,FY,BT];have hd:∃z,WN y.BH f.den=some z:=by unfold WN;rw[if_neg awK];exact⟨_,rfl⟩
  obtain⟨z,hz⟩:=hd;unfold Xk;rw[hz];by_cases h0:(0:Int) < ((i:Nat):Int);rw[Aq h0,Ii (by omega)];have hq:f.ps[i - 1]?=some f.ps[i - 1]:=atS (by omega)
  have hg:FI f.ps (((i:Nat):Int) - 1)=some f.ps[i - 1]:=by
   unfold FI;rw[show(((i:Nat):Int) - 1).toNat=i - 1 by omega];simp only[hq]
   first | rfl | (rw[if_pos (by omega)])
  rw[hg,hq];simp only[TC,agN,agO,aoB,aJR];congr 2;apply propext;simp only[aUQ,forall_eq'];grind;rw[Ar h0];simp only[TC,agN,agO,aoB,aJR];congr 2;apply propext;simp only[aUQ];have:¬0 < i:=by omega
  grind),LK]
 refine Sv ⟨λh=>⟨hr,by omega,λx hx=>by cases hx;exact h3,h⟩,λh=>h.2.2.2⟩
def Ws(s:ByteArray):Prop:=s=CK\/s=kZ\/s=QY\/s=JV\/s=JU\/s=Ns\/s=Jo\/s=Ro\/s=Em\/s=Sf\/s=jQ
def Qz(k:Nd):Prop:=k.kind=11/\k.unit=CW/\I0 k.n
def Wq(n:Nd):Prop :=
 (n.kind=11/\KP n.unit/\0<=n.n/\n.n<=999999999999/\(n.unit=Ey->n.n<=1)/\n.kids.length=0/\F4 n ⟨0,VE,n.unit,n.n,0,0,0,⟨0,[]⟩,[],0⟩) \/
 (n.kind=12/\KB n.name/\n.kids.length=0/\F4 n ⟨0,n.name,VE,0,0,0,0,⟨0,[]⟩,[],0⟩) \/
 (n.kind=13/\I0 n.n/\n.kids.length=0/\F4 n ⟨0,VE,VE,n.n,0,0,0,⟨0,[]⟩,[],0⟩) \/
 (n.kind=14/\X9 n.name/\n.kids.length=0/\F4 n ⟨0,n.name,VE,0,0,0,0,⟨0,[]⟩,[],0⟩) \/
 (n.kind=15/\n.kids.length=1/\F4 n ⟨0,VE,VE,0,0,0,0,⟨0,[]⟩,[],0⟩) \/
 (n.kind=16/\F4 n ⟨0,n.name,VE,0,0,0,0,⟨0,[]⟩,[],0⟩/\n.kids.length=2/\Ws n.name/\(n.name=CK->∀k,n.kids[1]?=some k->Qz k)) \/
 (n.kind=17/\(n.name=Jl\/n.name=EP)/\F4 n ⟨0,n.name,VE,0,0,0,0,⟨0,[]⟩,[],0⟩/\2<=n.kids.length) \/
 (n.kind=18/\F4 n ⟨0,VE,VE,0,0,0,0,n.Cg,[],0⟩/\Z6 n.Cg/\n.kids.length=1)
mutual
def He:Nd->Prop
 |⟨kind,name,unit,n,fr,to,known,Cg,kids,BH⟩=>Wq ⟨kind,name,unit,n,fr,to,known,Cg,kids,BH⟩/\alM kids
def alM:List Nd->Prop
 |[]=>True
 |k::ks=>He k/\alM ks
end
def alN{l:List Nd}:alM l↔∀k∈l,He k:=by induction l with|nil=>simp[alM]|cons k l ih=>simp[alM,ih]
def Ga(n:Nd):He n↔Wq n/\∀k∈n.kids,He k:=by cases n;rw[He,alN]
def Ng{r:Option (Bool×Int)}{P Q:Prop}{t u:Int}{f:Bool×Int->Option (Bool×Int)}(h:Out r P t)(hT:P->Out (f (true,t)) Q u)(hF:∀z,¬P->Out (f (false,z)) Q u):Out (r.bind f) Q u:=by obtain⟨z,rfl,h2⟩:=h;by_cases hp:P;rw[Ch.2 hp,h2 hp];exact hT hp;rw[yP hp];exact hF z hp
def aKP{Q:Prop}{t u:Int}(hq:Q)(h:t=u):Out (some (true,t)) Q u:=⟨t,by rw[Ch.2 hq],λ_=>h⟩
def Nf{r:Option (Bool×Int)}{P Q:Prop}{t u:Int}(h:Out r P t)(hp:P↔Q)(ht:P->t=u):Out (r.bind λ(a,b)=>some (a,b)) Q u :=
 Ng h (λp=>aKP (hp.1 p) (ht p)) λ_ p=>Ks λq=>p (hp.2 q)
section
variable {p q r:Prop}{z:Int}
def oL:FX p (some (mb q,z)) (some (false,z))=some (mb (p/\q),z):=by by_cases h:p;rw[Aq h];congr 2;exact LM ⟨λa=>⟨h,a⟩,λa=>a.2⟩;rw[Ar h,yP];exact λa=>h a.1
def yY:FX p (some (false,z)) (some (mb q,z))=some (mb (¬p/\q),z):=by by_cases h:p;rw[Aq h,yP];exact λa=>a.1 h;rw[Ar h];congr 2;exact LM ⟨λa=>⟨h,a⟩,λa=>a.2⟩
def agX:FX p (some (mb q,z)) (some (mb r,z))=some (mb ((p->q)/\(¬p->r)),z):=by by_cases h:p;rw[Aq h];congr 2;exact LM ⟨λa=>⟨λ_=>a,λb=>absurd h b⟩,λa=>a.1 h⟩;rw[Ar h];congr 2;exact LM ⟨λa=>⟨λb=>absurd b h,λ_=>a⟩,λa=>a.2 h⟩
end
section
variable {n:Nd}
def xI(h:n.kind=11):Wq n↔KP n.unit/\0<=n.n/\n.n<=999999999999/\(n.unit=Ey->n.n<=1)/\n.kids.length=0/\F4 n ⟨0,VE,n.unit,n.n,0,0,0,⟨0,[]⟩,[],0⟩:=by unfold Wq;simp[h]
def avM(h:n.kind=12):Wq n↔KB n.name/\n.kids.length=0/\F4 n ⟨0,n.name,VE,0,0,0,0,⟨0,[]⟩,[],0⟩:=by unfold Wq;simp[h]
def alF(h:n.kind=13):Wq n↔I0 n.n/\n.kids.length=0/\F4 n ⟨0,VE,VE,n.n,0,0,0,⟨0,[]⟩,[],0⟩:=by unfold Wq;simp[h]
def avN(h:n.kind=14):Wq n↔X9 n.name/\n.kids.length=0/\F4 n ⟨0,n.name,VE,0,0,0,0,⟨0,[]⟩,[],0⟩:=by unfold Wq;simp[h]
def alG(h:n.kind=15):Wq n↔n.kids.length=1/\F4 n ⟨0,VE,VE,0,0,0,0,⟨0,[]⟩,[],0⟩:=by unfold Wq;simp[h]
def afZ(h:n.kind=16):Wq n↔F4 n ⟨0,n.name,VE,0,0,0,0,⟨0,[]⟩,[],0⟩/\n.kids.length=2/\Ws n.name/\(n.name=CK->∀k,n.kids[1]?=some k->Qz k):=by unfold Wq;simp[h]
def alH(h:n.kind=17):Wq n↔(n.name=Jl\/n.name=EP)/\F4 n ⟨0,n.name,VE,0,0,0,0,⟨0,[]⟩,[],0⟩/\2<=n.kids.length:=by unfold Wq;simp[h]
def alI(h:n.kind=18):Wq n↔F4 n ⟨0,VE,VE,0,0,0,0,n.Cg,[],0⟩/\Z6 n.Cg/\n.kids.length=1:=by unfold Wq;simp[h]
def Uo(h:Wq n):n.kind=11\/n.kind=12\/n.kind=13\/n.kind=14\/n.kind=15\/n.kind=16\/n.kind=17\/n.kind=18:=by
 unfold Wq at h;rcases h with h | h | h | h | h | h | h | h
 all_goals
   have:=h.1;simp[this]
end
def P1(l:List Nd)(c d:Int):Prop:=(∀k∈l,He k/\d+Ob k<=41)/\c+H9 l<=2000
def aDF{l:List Nd}{c d:Int}(h:l.length=0)(hc:c<=2000):P1 l c d/\c=c+H9 l:=by obtain rfl:=bbD h;exact⟨⟨(λk hk=>(by cases hk)),(by simp only[H9];omega)⟩,(by simp[H9])⟩
def aDG{x:Nd}{c d:Int}:P1 [x] c d↔He x/\c+Ds x<=2000/\d+Ob x<=41:=by unfold P1;simp only[bbV,forall_eq,H9,bcS];exact⟨λa=>⟨a.1.1,a.2,a.1.2⟩,λa=>⟨⟨a.1,a.2.2⟩,a.2.1⟩⟩
def sE{x y:Nd}{c d:Int}:P1 [x,y] c d↔(He x/\c+Ds x<=2000/\d+Ob x<=41)/\He y/\c+Ds x+Ds y<=2000/\d+Ob y<=41:=by unfold P1;simp only[bbG,bdO,or_false,forall_eq_or_imp,forall_eq,H9,bcS,bkV];constructor;rintro⟨⟨⟨a,b⟩,c',d'⟩,e⟩;exact⟨⟨a,by omega,b⟩,c',by omega,d'⟩;rintro⟨⟨a,b,c'⟩,d',e,f⟩;exact⟨⟨⟨a,c'⟩,d',f⟩,by omega⟩
abbrev ExS(g:Ck->Nd->Int->Option (Bool×Int))(n:Nd):Prop:=∀(c d:Int),0<=c->c<=2000->0<=d->d<=41->Out (g ⟨c⟩ n d) (He n/\c+Ds n<=2000/\d+Ob n<=41) (c+Ds n)
def kV{g:Ck->Nd->Int->Option (Bool×Int)}{b a:Ck->Nd->Int->Option (Bool×Int)}{l:Ck->List Nd->Int->Option (Bool×Int)}{n:Nd}(h:ExS g n){c d:Int}(h0:0<=c)(h1:c<=2000)(h2:0<=d)(h3:d<=41) :
   Out (Dm g b a l ⟨c⟩ n d) ((He n/\Qz n)/\c+Ds n<=2000/\d+Ob n<=41) (c+Ds n):=by
 rw[Dm];simp only[BT,FW,B9,Xm,TC];refine Ng (h c d h0 h1 h2 h3) (λhp=>?_) λz hp=>Ks λq=>hp ⟨q.1.1,q.2⟩;show Out (FX (n.kind=11) (FX (n.unit=CW) (some (mb (I0 n.n),c+Ds n)) (some (false,c+Ds n))) (some (false,c+Ds n))) _ _;rw[oL,oL];exact Xe ⟨λa=>⟨⟨hp.1,a⟩,hp.2⟩,λa=>a.1.2⟩
def afM{g n':Ck->Nd->Int->Option (Bool×Int)}{b:Ck->Nd->Int->Option (Bool×Int)}{l:Ck->List Nd->Int->Option (Bool×Int)}{n:Nd}(hg:∀k∈n.kids,ExS g k)
   (hn:∀k∈n.kids,∀c d:Int,0<=c->c<=2000->0<=d->d<=41->Out (n' ⟨c⟩ k d) ((He k/\Qz k)/\c+Ds k<=2000/\d+Ob k<=41) (c+Ds k)) {c d:Int} (h0:0<=c) (h1:c<=2000) (h2:0<=d) (h3:d<=40):
   Out (Dl g b n' l ⟨c⟩ n d) ((n.kids.length=2/\Ws n.name/\(n.name=CK->∀k,n.kids[1]?=some k->Qz k))/\P1 n.kids c (d+1)) (c+H9 n.kids):=by
 rw[Dl,BS (by omega)];simp only[BT,FW,B9];generalize hl:n.kids=ks at *;by_cases hlen:((ks.length:Nat):Int)=2;rotate_left;rw[Ar hlen];exact Ks λq=>hlen (by have:=q.1.1;omega);rw[Aq hlen]
 match ks,hlen with
 |[x,y],_=>
 simp only[bbH,bdV,TC];refine Ng (hg x (by simp) c (d+1) h0 h1 (by omega) (by omega)) (λhx=>?_) λz hx=>Ks λq=>hx (sE.1 q.2).1;dsimp only;rw[cond_true];have hsz:H9 [x,y]=Ds x+Ds y:=by simp[H9]
 have hy:=λhc=>hg y (by simp) (c+Ds x) (d+1) (by omega) hc (by omega) (by omega);have hn':=λhc=>hn y (by simp) (c+Ds x) (d+1) (by omega) hc (by omega) (by omega);have hy:=hy hx.2.1;have hn':=hn' hx.2.1;by_cases hs:n.name=CK;rw[Aq hs];refine Nf hn' ⟨λa=>⟨⟨rfl,.inl hs,λ_ k hk=>by cases hk;exact a.1.2⟩,sE.2 ⟨hx,a.1.1,a.2⟩⟩,λa=>?_⟩ (λa=>by rw[hsz];omega);have:=(sE.1 a.2).2;exact⟨⟨this.1,a.1.2.2 hs y rfl⟩,this.2⟩;rw[Ar hs]
 have fin:∀WW:Ws n.name,Out ((g ⟨c+Ds x⟩ y (d+1)).bind λ(a,b)=>some (a,b)) ((([x,y]:List Nd).length=2/\Ws n.name/\(n.name=CK->∀k,some y=some k->Qz k))/\P1 [x,y] c (d+1)) (c+H9 [x,y]):=λWW=>
  Nf hy ⟨λa=>⟨⟨rfl,WW,λe=>absurd e hs⟩,sE.2 ⟨hx,a⟩⟩,λa=>(sE.1 a.2).2⟩ (λa=>by rw[hsz];omega)
 have step:∀{s:ByteArray}{A:Option (Bool×Int)},(n.name=s->Ws n.name)->(n.name≠s->Out A ((([x,y]:List Nd).length=2/\Ws n.name/\(n.name=CK->∀k,some y=some k->Qz k))/\P1 [x,y] c (d+1)) (c+H9 [x,y])) ->
  Out (FX (n.name=s) ((g ⟨c+Ds x⟩ y (d+1)).bind λ(a,b)=>some (a,b)) A) ((([x,y]:List Nd).length=2/\Ws n.name/\(n.name=CK->∀k,some y=some k->Qz k))/\P1 [x,y] c (d+1)) (c+H9 [x,y]):=by
  intro s A h4 h5;by_cases h:n.name=s;rw[Aq h];exact fin (h4 h);rw[Ar h];exact h5 h
 refine step (λe=>by unfold Ws;simp[e]) λe1=>?_;refine step (λe=>by unfold Ws;simp[e]) λe2=>?_;refine step (λe=>by unfold Ws;simp[e]) λe3=>?_;refine step (λe=>by unfold Ws;simp[e]) λe4=>?_;refine step (λe=>by unfold Ws;simp[e]) λe5=>?_;refine step (λe=>by unfold Ws;simp[e]) λe6=>?_;refine step (λe=>by unfold Ws;simp[e]) λe7=>?_;refine step (λe=>by unfold Ws;simp[e]) λe8=>?_;refine step (λe=>by unfold Ws;simp[e]) λe9=>?_;refine step (λe=>by unfold Ws;simp[e]) λe10=>?_
 exact Ks λq=>by
  have:=q.1.2.1;unfold Ws at this;simp[hs,e1,e2,e3,e4,e5,e6,e7,e8,e9,e10] at this
def aoG{A L B T:Prop}{x:Int}:(A/\¬x < 0/\¬999999999999 < x/\(T->¬1 < x/\L/\B)/\(¬T->L/\B))↔A/\0<=x/\x<=999999999999/\(T->x<=1)/\L/\B:=by constructor;rintro⟨a,b,c,d,e⟩;by_cases t:T;exact⟨a,by omega,by omega,λ_=>by have:=(d t).1;omega,(d t).2⟩;exact⟨a,by omega,by omega,λh=>absurd h t,e t⟩;rintro⟨a,b,c,d,e⟩;exact⟨a,by omega,by omega,λt=>⟨by have:=d t;omega,e⟩,λ_=>e⟩
def alJ:∀(q:Nat)(n:Nd),F6 n->3*Ds n<=q->ExS (Ax q) n:=by
 intro q
 induction q using beW with
 |_ q ih=>
 intro n MH hq c d h0 h1 h2 h3;have hsz:=CS n;obtain⟨q,rfl⟩:∃k,q=k+1:=⟨q - 1,by omega⟩;obtain⟨wA,nK,OE⟩:=QA MH;have hE:∀k∈n.kids,∀q',q<=q'+2->q' < q+1->ExS (Ax q') k:=λk hk q' h4 h5=>ih q' h5 k (OE k hk) (by have:=Fx hk;omega);rw[Ax,E6];refine Ng (eJ n h0 h1) (λhp=>?_) λz hp=>Ks λa=>hp ⟨by omega,by have:=Qm n;omega⟩;dsimp only;rw[cond_true];refine Out.congr (P:=Wq n/\P1 n.kids (c+1) (d+1)) (t:=(c+1)+H9 n.kids) ?_ ?_ (λ_=>by omega);rotate_left;rw[Ga,Qm];unfold P1;have hd:=@X8 n.kids;constructor;rintro⟨a,b,e⟩;refine⟨⟨a,λk hk=>(b k hk).1⟩,by omega,?_⟩;have:=(hd (m:=(40 - d).toNat)).2 λk hk=>by have:=(b k hk).2;omega
 omega;rintro⟨⟨a,b⟩,e,f⟩;refine⟨a,λk hk=>⟨b k hk,?_⟩,by omega⟩;have:=(hd (m:=vT n.kids)).1 (aHT _) k hk;omega;have hc1:=hp.1;have hd1:=hp.2;rw[BS (a:=d) (b:=1) (by omega)];have e0:(((n.kids.length:Nat):Int)=0)=(n.kids.length=0):=propext (by omega);simp only[BT,FY,HV,FW,B9,adD,abR,Xm,aqB,aSQ _ wA,bW _ _ wA,TC,e0];have dH:∀{B:Prop},(B↔Wq n)->(B->n.kids.length=0)->Out (some (mb B,c+1)) (Wq n/\P1 n.kids (c+1) (d+1)) (c+1+H9 n.kids):=λhB hk=>(Xe hB).congr ⟨λa=>⟨a,(aDF (hk (hB.2 a)) hc1).1⟩,λa=>a.1⟩ λa=>(aDF (d:=d+1) (hk (hB.2 a.1)) hc1).2
 have hone:∀{B:Prop},(Wq n↔B/\n.kids.length=1)->B->n.kids.length=1->Out ((n.kids[0]?).bind λx=>(Ax q ⟨c+1⟩ x (d+1)).bind λ(a,b)=>some (a,b)) (Wq n/\P1 n.kids (c+1) (d+1)) (c+1+H9 n.kids):=by
  intro B hB hb hl;have hE0:=λk hk=>hE k hk q (by omega) (by omega);have hx:=hB.2 ⟨hb,hl⟩;generalize n.kids=ks at *
  match ks,hl with
  |[x],_=>
  simp only[bbH,TC];refine Nf (hE0 x (by simp) (c+1) (d+1) (by omega) hc1 (by omega) (by omega)) ⟨λa=>⟨hx,aDG.2 a⟩,λa=>aDG.1 a.2⟩ λ_=>?_;simp[H9]
 by_cases dR:n.kind=11;rw[Aq dR];simp only[oL,yY,agX];refine dH ?_ ?_;rw[xI dR];exact aoG;intro h;exact(aoG.1 h).2.2.2.2.1;rw[Ar dR];by_cases wE:n.kind=12;rw[Aq wE];simp only[oL,yY,agX];refine dH ?_ ?_;rw[avM wE];intro h;exact h.2.1;rw[Ar wE];by_cases Ze:n.kind=13;rw[Aq Ze];simp only[oL,yY,agX];refine dH ?_ ?_;rw[alF Ze];intro h;exact h.2.1;rw[Ar Ze];by_cases k14:n.kind=14;rw[Aq k14];simp only[oL,yY,agX];refine dH ?_ ?_;rw[avN k14];intro h;exact h.2.1;rw[Ar k14];by_cases TH:n.kind=15;rw[Aq TH];have e:=alG TH;refine Ie (λhl=>Ie (λhb=>hone (e.trans And.comm) hb (by omega)) λa=>(e.1 a.1).2) λa=>?_;have:=(e.1 a.1).1;omega;rw[Ar TH];by_cases S7:n.kind=16;rw[Aq S7];have e:=afZ S7;refine Ie (λhb=>?_) λa=>(e.1 a.1).1;obtain⟨q,rfl⟩:∃k,q=k+1:=⟨q - 1,by omega⟩;rw[AJ];refine Nf (afM (g:=Ax q) (b:=AJ q) (n':=Az q) (l:=Av q) (λk hk=>hE k hk q (by omega) (by omega)) (λk hk c d a1 a2 a3 a4=>?_) (by omega) hc1 h2 hd1) ?_ λ_=>rfl;obtain⟨q,rfl⟩:∃k,q=k+1:=⟨q - 1,by have:=Qa hk;have:=CS k;omega⟩;rw[Az];exact kV (hE k hk q (by omega) (by omega)) a1 a2 a3 a4;rw[e];exact⟨λa=>⟨⟨hb,a.1⟩,a.2⟩,λa=>⟨a.1.2,a.2⟩⟩;rw[Ar S7];by_cases sC:n.kind=17;rw[Aq sC];have e:=alH sC
 have GC:(n.name=Jl\/n.name=EP)->Out (FX (F4 n ⟨0,n.name,VE,0,0,0,0,⟨0,[]⟩,[],0⟩) (FX (2<=((n.kids.length:Nat):Int)) ((Av q ⟨c+1⟩ n.kids (d+1)).bind λ(a,b)=>some (a,b)) (some (false,c+1))) (some (false,c+1))) (Wq n/\P1 n.kids (c+1) (d+1)) (c+1+H9 n.kids):=by intro hn;refine Ie (λhb=>Ie (λhl=>?_) λa=>?_) λa=>(e.1 a.1).2.1;obtain⟨q,rfl⟩:∃k,q=k+1:=⟨q - 1,by have:=Kj n.kids;omega⟩;rw[Av,DU,AZ nK,bbQ];dsimp only;refine Nf (Tj (g:=Ax q) (p:=He) (d:=d+1) (by omega) hc1 λk hk c' b0 b1=>hE k hk q (by omega) (by omega) c' (d+1) b0 b1 (by omega) (by omega)) ?_ λ_=>rfl;rw[e];exact⟨λa=>⟨⟨hn,hb,by omega⟩,a⟩,λa=>a.2⟩;have:=(e.1 a.1).2.2;omega
 by_cases hn1:n.name=Jl;rw[Aq hn1];exact GC (.inl hn1);rw[Ar hn1];exact Ie (λhn2=>GC (.inr hn2)) λa=>(e.1 a.1).1.resolve_left hn1;rw[Ar sC];by_cases kJ:n.kind=18;rw[Aq kJ];have e:=alI kJ;refine Ie (λhb=>Ie (λht=>Ie (λhl=>hone (B:=F4 n ⟨0,VE,VE,0,0,0,0,n.Cg,[],0⟩/\Z6 n.Cg) (e.trans (by rw[and_assoc])) ⟨hb,ht⟩ (by omega)) λa=>?_) λa=>(e.1 a.1).2.1) λa=>(e.1 a.1).1;have:=(e.1 a.1).2.2;omega;rw[Ar kJ];exact Ks λa=>by have:=Uo a.1;omega
def Le{β:Type}(a b:Option β):Prop:=∀y,a=some y->b=some y
section
variable {α β γ δ ρ:Type}
def Le.refl(a:Option β):Le a a:=λ_ h=>h
def P3{a a':Option α}{f g:α->Option β}(h:Le a a')(k:∀x,Le (f x) (g x)):Le (a.bind f) (a'.bind g):=by intro y hy;cases a with|none=>cases hy|some x=>rw[h x rfl];exact k x y hy
def acE{b:Bool}{x x' y y':Option β}(h:Le x x')(k:Le y y'):Le (cond b x y) (cond b x' y'):=by cases b;exact k;exact h
def aJV{n:Nat}{x x':Option β}(h:Le x x'):Le (B6 n x) (B6 n x'):=by unfold B6;split;exact h;exact Le.refl _
def acF{body aCH:Nat->α->γ->Option (Lp γ δ ρ)}{done:γ->δ}(h:∀i y x,Le (body i y x) (aCH i y x)):∀(l:List α)(i:Nat)(x:γ),Le (Bu body done l i x) (Bu aCH done l i x)
 |[],_,_=>Le.refl _
 |a::l,i,x=>by
  rw[Bu,Bu];refine P3 (h i a x) λz=>?_;cases z with|nx x'=>exact acF h l (i+1) x'|ex d=>exact Le.refl _|rt v=>exact Le.refl _
end
def nB:∀q:Nat,(∀c n d,Le (Ax q c n d) (Ax (q+1) c n d))/\(∀c n d,Le (AJ q c n d) (AJ (q+1) c n d))/\(∀c n d,Le (Az q c n d) (Az (q+1) c n d))/\(∀c n d,Le (Av q c n d) (Av (q+1) c n d))
 |0=>⟨(λ_ _ _ _ h=>nomatch h),(λ_ _ _ _ h=>nomatch h),(λ_ _ _ _ h=>nomatch h),(λ_ _ _ _ h=>nomatch h)⟩
 |q+1=>by
  obtain⟨i1,i2,i3,i4⟩:=nB q;refine⟨λc n d=>?_,λc n d=>?_,λc n d=>?_,λc n d=>?_⟩
  ·rw[Ax,Ax,E6,E6]
   repeat' first
    |exact Le.refl _
    |exact i1 _ _ _
    |exact i2 _ _ _
    |exact i4 _ _ _
    |refine acE ?_ ?_
    |refine P3 ?_ λ⟨_,_⟩=>?_
    |refine P3 ?_ λ_=>?_
  ·rw[AJ,AJ,Dl,Dl]
   repeat' first
    |exact Le.refl _
    |exact i1 _ _ _
    |exact i3 _ _ _
    |refine acE ?_ ?_
    |refine P3 ?_ λ⟨_,_⟩=>?_
    |refine P3 ?_ λ_=>?_
  rw[Az,Az,Dm,Dm];exact P3 (i1 _ _ _) λ_=>Le.refl _;rw[Av,Av,DU,DU];refine P3 (aJV (acF (λi y x=>?_) _ _ _)) λ_=>Le.refl _;rw[GH,GH];exact P3 (i1 _ _ _) λ_=>Le.refl _
def alE{β:Type}{f:Nat->Option β}(h:∀q,Le (f q) (f (q+1))){q:Nat}{y:β}(hy:f q=some y):vU f=some y:=by
 refine NA q λm hm=>?_
 induction m with
 | zero=>obtain rfl:q=0:=by omega
         exact hy
 |succ m ih=>
  rcases bdS m q with hlt | hge
  obtain rfl:q=m+1:=by omega
  exact hy;exact h m y (ih hge)
def alL{n:Nd}(MH:F6 n):ExS GU n:=by intro c d h0 h1 h2 h3;obtain⟨z,hz,hz2⟩:=alJ (3*Ds n) n MH (aHT _) c d h0 h1 h2 h3;exact⟨z,alE (λq=>(nB q).1 _ _ _) hz,hz2⟩
def apL{n:Nd}(MH:F6 n){c d:Int}(h0:0<=c)(h1:c<=2000)(h2:0<=d)(h3:d<=41):Out (FM ⟨c⟩ n d) ((He n/\Qz n)/\c+Ds n<=2000/\d+Ob n<=41) (c+Ds n):=by obtain⟨z,hz,hz2⟩:=kV (g:=Ax (3*Ds n)) (b:=AJ (3*Ds n)) (a:=Az (3*Ds n)) (l:=Av (3*Ds n)) (alJ (3*Ds n) n MH (aHT _)) h0 h1 h2 h3;exact⟨z,alE (q:=3*Ds n+1) (λq=>(nB q).2.2.1 _ _ _) (by rw[Az];exact hz),hz2⟩
abbrev z0:Nd:=⟨0,VE,VE,0,0,0,0,⟨0,[]⟩,[],0⟩
def aKR(n:Int):Gu n=some (mb (X5 n)):=by rw[Gu];simp only[FY,B9,LK,Il];rfl
def N0(n:Nd):Prop:=n.kind=5/\(0<=n.n/\n.n<=1000000)/\n.kids.length=0/\X5 n.fr/\(n.fr < n.to/\n.to<=36525)/\X5 n.known/\F4 n ⟨0,VE,VE,n.n,n.fr,n.to,n.known,⟨0,[]⟩,[],0⟩
def Cn(n:Nd):Prop:=F4 n z0/\(n.kind=7->0 < n.kids.length/\∀k∈n.kids,He k/\Qz k)/\(n.kind≠7->n.kids.length=1/\∀k∈n.kids,He k)
def acG{n:Nd}(h:n.kids.length=0):Ds n=1/\Ob n=1:=by have:=bbD h;rw[CS,Qm,this];exact⟨rfl,rfl⟩
def aIB{n:Nd}(MH:F6 n){c d:Int}(h0:0<=c)(h1:c<=2000):Out (GV ⟨c⟩ n d) (N0 n/\c+Ds n<=2000/\d+Ob n<=41) (c+Ds n):=by
 obtain⟨wA,nK,OE⟩:=QA MH;have hsz:=CS n;have hdp:=Qm n;rw[GV];refine Ng (eJ n h0 h1) (λhp=>?_) λz hp=>Ks λa=>hp ⟨by omega,by omega⟩;dsimp only;rw[cond_true];simp only[BT,FY,HV,B9,aKR,bW _ _ wA,TC,oL,yY]
 have key:(n.kind=5/\¬n.n < 0/\¬1000000 < n.n/\¬(0:Int) < ((n.kids.length:Nat):Int)/\X5 n.fr/\¬n.to<=n.fr/\¬36525 < n.to/\X5 n.known/\F4 n ⟨0,VE,VE,n.n,n.fr,n.to,n.known,⟨0,[]⟩,[],0⟩)↔N0 n:=by unfold N0;constructor;rintro⟨a,b,c',e,f,g,h,i,j⟩;exact⟨a,⟨by omega,by omega⟩,by omega,f,⟨by omega,by omega⟩,i,j⟩;rintro⟨a,b,c',f,g,i,j⟩;exact⟨a,by omega,by omega,by omega,f,by omega,by omega,i,j⟩
 refine(Xe key).congr ⟨λa=>⟨a,?_⟩,λa=>a.1⟩ λa=>?_;have:=acG a.2.2.1;omega;have:=acG a.1.2.2.1;omega
def akL{n:Nd}(MH:F6 n){c d:Int}(h0:0<=c)(h1:c<=2000)(h2:0<=d):Out (Et ⟨c⟩ n d) (Cn n/\c+Ds n<=2000/\d+Ob n<=41) (c+Ds n):=by
 obtain⟨wA,nK,OE⟩:=QA MH;have hsz:=CS n;have hdp:=Qm n;have hd:=@X8 n.kids;rw[Et];refine Ng (eJ n h0 h1) (λhp=>?_) λz hp=>Ks λa=>hp ⟨by omega,by omega⟩;dsimp only;rw[cond_true,BS (a:=d) (b:=1) (by omega)];simp only[BT,HV,B9,bW _ _ wA,TC];have hc1:=hp.1;have hd1:=hp.2
 have Um:(∀k∈n.kids,d+1+Ob k<=41)↔d+Ob n<=41:=by
  constructor;intro h;have:=(hd (m:=(40 - d).toNat)).2 λk hk=>by have:=h k hk;omega
  omega;intro h k hk;have:=(hd (m:=vT n.kids)).1 (aHT _) k hk;omega
 refine Ie (λhb=>?_) λa=>a.1.1;by_cases k7:n.kind=7;rw[Aq k7];refine Ie (λhl=>?_) λa=>by have:=(a.1.2.1 k7).1;omega
 rw[Gg,AZ nK,bbQ];dsimp only;refine Nf (Tj (g:=FM) (p:=λk=>He k/\Qz k) (d:=d+1) (by omega) hc1 λk hk c' b0 b1=>apL (OE k hk) b0 b1 (by omega) (by omega)) ⟨λa=>⟨⟨hb,λ_=>⟨by omega,λk hk=>(a.1 k hk).1⟩,λh=>absurd k7 h⟩,by omega,Um.1 λk hk=>(a.1 k hk).2⟩,λa=>⟨λk hk=>⟨(a.1.2.1 k7).2 k hk,Um.2 a.2.2 k hk⟩,by omega⟩⟩ λ_=>by omega
 ·rw[Ar k7]
  refine Ie (λhl=>?_) λa=>by have:=(a.1.2.2 k7).1;omega
  have kF:n.kids.length=1:=by omega
  unfold Cn;generalize n.kids=ks at *
  match ks,kF with
  |[x],_=>
  simp only[bbH,TC];have e1:H9 [x]=Ds x:=by simp[H9]
  refine Nf (alL (OE x (by simp)) (c+1) (d+1) (by omega) hc1 (by omega) (by omega)) ⟨λa=>⟨⟨hb,λh=>absurd h k7,λ_=>⟨rfl,λk hk=>by rw[bbV.1 hk];exact a.1⟩⟩,by omega,Um.1 λk hk=>by rw[bbV.1 hk];exact a.2.2⟩,λa=>⟨(a.1.2.2 k7).2 x (by simp),by omega,Um.2 a.2.2 x (by simp)⟩⟩ λ_=>by omega
def De(k:Int):List Nd->Nat
 |[]=>0
 |a::l=>(if a.kind=k then 1 else 0)+De k l
def avB(k:Int)(l:List Nd):De k l<=l.length:=by induction l with|nil=>simp[De]|cons a l ih=>simp only[De,amN];split<;>omega
def kinds(l:List Nd):Prop:=∀k∈l,6<=k.kind/\k.kind<=8
def dT{y:Int}:∀{l:List Nd}{i:Nat}{a b c:Int},0<=a->0<=b->0<=c->a+l.length<=9223372036854775807->b+l.length<=9223372036854775807->c+l.length<=9223372036854775807 ->
 Bu (λi z x=>EG y i z x.1 x.2.1 x.2.2) (λx=>(x.1,x.2.1,x.2.2)) l i (a,b,c)=some (FX (kinds l) (.inl (a+De 6 l,b+De 7 l,c+De 8 l)) (.inr (false,y)))
 |[],i,a,b,c,_,_,_,_,_,_=>by rw[Aq (show kinds [] from λk hk=>(by cases hk))];simp[Bu,De]
 |z::l,i,a,b,c,h1,h2,h3,h4,h5,h6=>by
  simp only[amN] at h4 h5 h6;rw[Bu,EG];simp only[HV,BT,B9];have hk:kinds (z::l)↔(6<=z.kind/\z.kind<=8)/\kinds l:=by unfold kinds;simp
  have go:∀{a' b' c':Int},0<=a'->0<=b'->0<=c'->a'<=a+1->b'<=b+1->c'<=c+1->6<=z.kind/\z.kind<=8->a'+De 6 l=a+De 6 (z::l)->b'+De 7 l=b+De 7 (z::l)->c'+De 8 l=c+De 8 (z::l) ->
   (some (Lp.nx (a',b',c'))).bind (OU (Bu (λi z x=>EG y i z x.1 x.2.1 x.2.2) (λx=>(x.1,x.2.1,x.2.2)) l (i+1)))=some (FX (kinds (z::l)) (.inl (a+De 6 (z::l),b+De 7 (z::l),c+De 8 (z::l))) (.inr (false,y))):=by
   intro a' b' c' g1 g2 g3 g4 g5 g6 gk e1 e2 e3;show Bu _ _ l (i+1) (a',b',c')=_;rw[dT g1 g2 g3 (by omega) (by omega) (by omega),e1,e2,e3];by_cases hl:kinds l;rw[Aq hl,Aq (hk.2 ⟨gk,hl⟩)];rw[Ar hl,Ar λq=>hl (hk.1 q).2]
  by_cases k6:z.kind < 6;rw[Aq k6,Ar λq=>by have:=(hk.1 q).1;omega];rfl;rw[Ar k6];by_cases k8:8 < z.kind;rw[Aq k8,Ar λq=>by have:=(hk.1 q).1;omega];rfl;rw[Ar k8];by_cases e6:z.kind=6;rw[Aq e6,BS (by omega)];exact go (by omega) h2 h3 (by omega) (by omega) (by omega) (by omega) (by simp[De,e6];omega) (by simp[De,e6]) (by simp[De,e6]);rw[Ar e6];by_cases e7:z.kind=7;rw[Aq e7,BS (by omega)];exact go h1 (by omega) h3 (by omega) (by omega) (by omega) (by omega) (by simp[De,e7]) (by simp[De,e7];omega) (by simp[De,e7]);rw[Ar e7];have e8:z.kind=8:=by omega
  rw[Aq e8,BS (by omega)];exact go h1 h2 (by omega) (by omega) (by omega) (by omega) (by omega) (by simp[De,e8]) (by simp[De,e8]) (by simp[De,e8];omega)
def ajS(n:Nd):Prop:=I0 n.n/\KB n.name/\F4 n ⟨0,n.name,VE,n.n,0,0,0,⟨0,[]⟩,[],0⟩/\∃h cs,n.kids=h::cs/\kinds cs/\De 8 cs=1/\De 7 cs<=1/\N0 h/\∀k∈cs,Cn k
def GD(n:Nd):Prop :=
 (n.kind=2/\KB n.name/\KP n.unit/\n.kids.length=0/\F4 n ⟨0,n.name,n.unit,0,0,0,0,⟨0,[]⟩,[],0⟩) \/
 (n.kind=3/\KB n.name/\KP n.unit/\1<=n.n/\n.n<=4/\n.kids.length=0/\F4 n ⟨0,n.name,n.unit,n.n,0,0,0,⟨0,[]⟩,[],0⟩) \/
 (n.kind=4/\ajS n)
def it2{n:Nd}(h:n.kind=2):GD n↔KB n.name/\KP n.unit/\n.kids.length=0/\F4 n ⟨0,n.name,n.unit,0,0,0,0,⟨0,[]⟩,[],0⟩:=by unfold GD;simp[h]
def it3{n:Nd}(h:n.kind=3):GD n↔KB n.name/\KP n.unit/\1<=n.n/\n.n<=4/\n.kids.length=0/\F4 n ⟨0,n.name,n.unit,n.n,0,0,0,⟨0,[]⟩,[],0⟩:=by unfold GD;simp[h]
def it4{n:Nd}(h:n.kind=4):GD n↔ajS n:=by unfold GD;simp[h]
def aP{n:Nd}(h:GD n):n.kind=2\/n.kind=3\/n.kind=4:=by
 unfold GD at h;rcases h with h | h | h
 all_goals
   have:=h.1;simp[this]
def aJN{n:Nd}(MH:F6 n){c d:Int}(h0:0<=c)(h1:c<=2000)(h2:0<=d):Out (E7 ⟨c⟩ n d) (GD n/\c+Ds n<=2000/\d+Ob n<=41) (c+Ds n):=by
 obtain⟨wA,nK,OE⟩:=QA MH;have hsz:=CS n;have hdp:=Qm n;have hd:=@X8 n.kids;rw[E7];refine Ng (eJ n h0 h1) (λhp=>?_) λz hp=>Ks λa=>hp ⟨by omega,by omega⟩;dsimp only;rw[cond_true,BS (a:=d) (b:=1) (by omega)];have e0:(((n.kids.length:Nat):Int)=0)=(n.kids.length=0):=propext (by omega);simp only[BT,FY,HV,B9,adD,abR,Xm,bW _ _ wA,TC,e0];have hc1:=hp.1;have hd1:=hp.2;have dH:∀{B:Prop},(B↔GD n)->(B->n.kids.length=0)->Out (some (mb B,c+1)) (GD n/\c+Ds n<=2000/\d+Ob n<=41) (c+Ds n):=λhB hk=>(Xe hB).congr ⟨λa=>⟨a,by have:=acG (hk (hB.2 a));omega⟩,λa=>a.1⟩ λa=>by have:=acG (hk (hB.2 a.1));omega
 by_cases k2:n.kind=2;rw[Aq k2];simp only[oL,yY,agX];refine dH ?_ ?_;rw[it2 k2];intro h;exact h.2.2.1;rw[Ar k2];by_cases k3:n.kind=3;rw[Aq k3];simp only[oL,yY,agX];refine dH ?_ ?_;rw[it3 k3];intro h;exact h.2.2.2.2.1;rw[Ar k3];by_cases k4:n.kind=4;rotate_left;rw[Ar k4];exact Ks λa=>by have:=aP a.1;omega
 rw[Aq k4,it4 k4];refine Ie (λhr=>Ie (λhn=>Ie (λhb=>?_) λa=>a.1.2.2.1) λa=>a.1.2.1) λa=>a.1.1;refine sW (λhl0=>?_) λa h=>by obtain⟨h',cs,hk,_⟩:=a.1.2.2.2;rw[hk] at h;simp at h
 have Um:(∀k∈n.kids,d+1+Ob k<=41)↔d+Ob n<=41:=by
  constructor;intro h;have:=(hd (m:=(40 - d).toNat)).2 λk hk=>by have:=h k hk;omega
  omega;intro h k hk;have:=(hd (m:=vT n.kids)).1 (aHT _) k hk;omega
 unfold ajS;generalize n.kids=ks at *
 match ks,hl0 with
 |x::l,_=>
 have LG:U3 (x::l) 1 (((x::l).length:Nat):Int)=some l:=by unfold U3;rw[if_pos (by simp only[amN];omega)];simp
 rw[LG];simp only[TC,amN] at nK ⊢
 have e2:∀{A:Prop},(∃h cs,x::l=h::cs/\kinds cs/\De 8 cs=1/\De 7 cs<=1/\N0 h/\∀k∈cs,Cn k)↔(kinds l/\De 8 l=1/\De 7 l<=1/\N0 x/\∀k∈l,Cn k):=by intro _;constructor;rintro⟨h,cs,e,r⟩;cases e;exact r;intro r;exact⟨x,l,rfl,r⟩
 rw[AZ (by omega),bbQ,dT (by omega) (by omega) (by omega) (by omega) (by omega) (by omega)];simp only[TC];by_cases hK:kinds l;rotate_left;rw[Ar hK];show Out (some (false,c+1)) _ _;exact Ks λa=>hK ((e2 (A:=True)).1 a.1.2.2.2).1;rw[Aq hK];show Out (FX ((0:Int)+De 8 l=1) (FX (1 < (0:Int)+De 7 l) (some (false,c+1)) _) (some (false,c+1))) _ _;refine Ie (λh8=>sW (λh7=>?_) λa=>?_) λa=>?_;rotate_left;have:=((e2 (A:=True)).1 a.1.2.2.2).2.2.1;omega;have:=((e2 (A:=True)).1 a.1.2.2.2).2.1;omega;simp only[bbH,TC];have hdx:=λh=>Um.2 h x (by simp);have hsl:H9 (x::l)=Ds x+H9 l:=by simp[H9]
 refine Ng (aIB (OE x (by simp)) (c:=c+1) (d:=d+1) (by omega) hc1) (λhx=>?_) λz hx=>Ks λa=>hx ⟨((e2 (A:=True)).1 a.1.2.2.2).2.2.2.1,by omega,hdx a.2.2⟩;dsimp only;rw[cond_true,Gf,AZ (by omega),bbQ];dsimp only;refine Nf (Tj (g:=Et) (p:=Cn) (d:=d+1) (by omega) hx.2.1 λk hk c' b0 b1=>akL (OE k (by simp[hk])) b0 b1 (by omega)) ?_ λ_=>by omega
 constructor;rintro⟨a,b⟩;refine⟨⟨hr,hn,hb,(e2 (A:=True)).2 ⟨hK,by omega,by omega,hx.1,λk hk=>(a k hk).1⟩⟩,by omega,Um.1 λk hk=>?_⟩;rcases bbG.1 hk with rfl | hk
 exact hx.2.2;exact(a k hk).2;rintro⟨a,b,e⟩;exact⟨λk hk=>⟨((e2 (A:=True)).1 a.2.2.2).2.2.2.2 k hk,Um.2 e k (by simp[hk])⟩,by omega⟩
def oG(n:Nd):Prop:=((n.kind=1/\F4 n z0/\∀k∈n.kids,GD k)\/(n.kind≠1/\He n))/\Ds n<=2000/\Ob n<=40
def aeK{n:Nd}(MH:F6 n):Io n=some (mb (oG n)):=by
 obtain⟨wA,nK,OE⟩:=QA MH;have hsz:=CS n;have hdp:=Qm n;have hd:=@X8 n.kids;rw[Io,BT,B9]
 have fin:∀{r:Option (Bool×Int)}{P:Prop}{t:Int},Out r P t->(P↔oG n)->(r.bind λ(a,_)=>some a)=some (mb (oG n)):=by rintro r P t ⟨z,rfl,_⟩ h;rw[LM h];rfl
 by_cases k1:n.kind=1;rotate_left;rw[Ar k1];refine fin (alL MH 0 1 (by omega) (by omega) (by omega) (by omega)) ?_;unfold oG;constructor;rintro⟨a,b,c⟩;exact⟨.inr ⟨k1,a⟩,by omega,by omega⟩;rintro⟨a | a,b,c⟩;exact absurd a.1 k1;exact⟨a.2,by omega,by omega⟩;rw[Aq k1];obtain⟨z,hz,hz2⟩:=eJ n (c:=0) (d:=1) (by omega) (by omega);rw[hz];simp only[TC,bW _ _ wA,B9];by_cases h1:(0:Int)+1<=2000/\(1:Int)<=40;rotate_left;exact absurd ⟨by omega,by omega⟩ h1;rw[Aq h1,hz2 h1];by_cases hb:F4 n z0;rotate_left;rw[Ar hb];refine NT ?_;rintro⟨a | a,_⟩;exact hb a.2.1;exact a.1 k1;rw[Aq hb,G6,AZ nK,bbQ];dsimp only;refine fin (Tj (g:=E7) (p:=GD) (d:=2) (by omega) (by omega) λk hk c' b0 b1=>aJN (OE k hk) b0 b1 (by omega)) ?_;unfold oG;constructor;rintro⟨a,b⟩;refine⟨.inl ⟨k1,hb,λk hk=>(a k hk).1⟩,by omega,?_⟩;have:=(hd (m:=39)).2 λk hk=>by have:=(a k hk).2;omega
 omega;rintro⟨a | a,b,e⟩;refine⟨λk hk=>⟨a.2.2 k hk,?_⟩,by omega⟩;have:=(hd (m:=vT n.kids)).1 (aHT _) k hk;omega;exact absurd k1 a.1
abbrev Rd(α:Type):=List Tk->Option ((α⊕Dg)×List Tk)
section
variable {α β:Type}
def GZ(a:α):Rd α:=λl=>some (.inl a,l)
def Pn(e p:Int):Rd α:=λl=>some (.inr ⟨e,p⟩,l)
def Cu(m:Rd α)(k:α->Rd β):Rd β:=λl=>match m l with|none=>none|some (.inl a,s)=>k a s|some (.inr d,s)=>some (.inr d,s)
def Oo(x:Option α)(k:α->Rd β):Rd β:=λl=>match x with|none=>none|some a=>k a l
def iV(en:Int)(k:Tk->Rd β):Rd β:=λl=>match l with|[]=>some (.inr ⟨72,en⟩,[])|t::s=>k t (t::s)
def aV(k:Rd β):Rd β:=λl=>match l with|[]=>none|_::s=>k s
def Mk(x:ByteArray):List Tk->Bool
 |[]=>false
 |t::_=>BE t.text.data.toList x.data.toList
def Rr(x:ByteArray)(yes no:Rd β):Rd β:=λl=>cond (Mk x l) (aV yes l) (no l)
end
def Qc(en:Int)(fits:Tk->Option Bool):Rd Tk:=iV en λt=>Oo (fits t) λb=>cond b (aV (GZ t)) (Pn 71 t.BH)
def Ky(en:Int)(x:ByteArray):Rd Tk:=Qc en λt=>D5 t x
def acO(en:Int):Rd Tk:=Qc en CO
def atC(en:Int):Rd Tk:=Qc en F0
def adM(en:Int):Rd Tk:=Qc en B0
def Uu(en:Int):Rd (Int×Int):=Cu (Qc en Fq) λt=>Oo (Tn t.text) λn=>GZ (n.1,t.BH)
def QL(en least:Int):Rd (Int×Int):=Cu (Uu en) λp=>cond (CV p.1 least) (Pn 3 p.2) (cond (CV 1000000 p.1) (Pn 3 p.2) (GZ p))
def YZ(en least:Int):Rd Int:=Cu (Qc en Gi) λt=>Oo (Gt t.text) λd=>cond (Bg d.2 0) (cond (CV d.1 least) (Pn 21 t.BH) (GZ d.1)) (Pn 21 t.BH)
abbrev bE:ByteArray:=VE
def FK(kind:Int)(name unit:ByteArray)(n:Int)(kids:List Nd)(p:Int):Nd:=⟨kind,name,unit,n,0,0,0,⟨0,[]⟩,kids,p⟩
def rR(en:Int):Rd Nd:=Cu (Ky en Xs) λt=>Cu (QL en 0) λn=>Cu (Ky en WT) λ_=>Cu (YZ en 0) λf=>
 Rr toS (Cu (YZ en (Ba f 1)) λu=>Cu (Ky en O0) λ_=>Cu (YZ en 0) λk=>GZ ⟨5,bE,bE,n.1,f,u,k,⟨0,[]⟩,[],t.BH⟩)
   (Cu (Ky en O0) λ_=>Cu (YZ en 0) λk=>GZ ⟨5,bE,bE,n.1,f,36525,k,⟨0,[]⟩,[],t.BH⟩)
def Y0(en:Int):Rd Nd:=iV en λt=>aV<|Cu (acO en) λm=>Cu (Ky en eU) λ_=>Cu (atC en) λu=>
 cond (BE t.text.data.toList LJ.data.toList)
   (Cu (adM en) λr=>Oo (Ed r.text) λn=>Cu (Ky en VW) λ_=>GZ (FK 3 m.text u.text n [] t.BH))
   (Cu (Ky en VW) λ_=>GZ (FK 2 m.text u.text 0 [] t.BH))
def JK(en:Int):Rd Nd:=Cu (QL en 1) λp=>GZ (FK 11 bE CW p.1 [] p.2)
def Rq{β:Type}(n:Nat)(m:Rd β):Rd β:=λs=>Of n (m s)
def TN(read:Rd Nd):Nat->List Nd->Rd (List Nd)
 |0,_=>λ_=>none
 |q+1,l=>Rr ZG (Cu read λn=>Rq (l.length+1) (TN read q (l++[n]))) (GZ l)
def Xa(read:Rd Nd):Rd (List Nd):=Cu read λn s=>TN read (s.length+1) [n] s
def Wc(en:Int):Rd (Int×Int):=Cu (Qc en Dq) λt=>Oo (EF t) λc=>cond (Bg t.kind 3) (cond (Bg c 0) (GZ (c,t.BH)) (Pn 3 t.BH)) (GZ (c,t.BH))
def uR(en:Int):Rd Int:=Cu (Qc en Gj) λt=>cond (BE t.text.data.toList Em.data.toList) (GZ (-1)) (GZ 1)
def xL:Nat->Int->Int->Int
 |0,a,_=>a
 |n+1,a,b=>if b=0 then a else xL n b (a % b)
def alT(a b:Int):Option Int:=if 1<=a/\0<=b then some (xL (b.toNat+1) a b) else none
def Xl(en As from_ a:Int):Rd (Pt×Int):=Cu (uR en) λs=>Cu (QL en 0) λm=>Cu (Ky en CK) λ_=>Cu (QL en 1) λd=>
 Oo (alT As d.1) λg=>Oo (Oc As g) λz=>cond (CV 1000000 (CE z d.1)) (Pn 2 d.2) (GZ (⟨from_,a,CE m.1 s,d.1⟩,CE z d.1))
def Ux(en As from_:Int):Rd (Pt×Int):=Cu (Ky en eU) λ_=>Rr Em (Cu (Wc en) λa=>Xl en As from_ (CE a.1 (-1))) (Cu (Wc en) λa=>Xl en As from_ (CE a.1 1))
def eO(en:Int)(before:List Pt)(As:Int):Rd (Pt×Int):=Cu (Wc en) λv=>
 cond (Bg ((before.length:Nat):Int) 0) (cond (Bg v.1 0) (Ux en As v.1) (Pn 3 v.2))
   (Oo (before[before.length - 1]?) λq=>cond (Lg v.1 q.fr) (Pn 3 v.2) (cond (Lg 64 ((before.length:Nat):Int)) (Pn 2 v.2) (Ux en As v.1)))
def Sd(en:Int):Nat->List Pt->Int->Rd (List Pt×Int)
 |0,_,_=>λ_=>none
 |q+1,l,c=>Cu (eO en l c) λp=>Rq (l.length+1) (Rr ZG (Sd en q (l++[p.1]) p.2) (GZ (l++[p.1],p.2)))
def Su(c p:Int):List Pt->List Pc->Rd (List Pc)
 |[],acc=>GZ acc
 |x::xs,acc=>Oo (Oc c x.den) λz=>cond (CV 1000000 (CE x.num z)) (Pn 2 p) (cond (CV (CE x.num z) (-1000000)) (Pn 2 p) (Rq (acc.length+1) (Su c p xs (acc++[⟨x.fr,CE x.BH c,CE x.num z⟩]))))
inductive Ek where
 |ex | lv (i:Nat) | at_ | wd (t:Tk) | ca | ta
def aaG(en:Int)(g:Ek->Rd Nd):Rd Nd:=Cu (Ky en MD) λt=>Cu (Ky en Mh) λ_=>Cu (g .ex) λa=>Cu (Ky en VW) λ_=>Cu (λs=>Sd en (s.length+1) [] 1 s) λl=>Cu (Ky en Pl) λe=>
 Rq l.1.length (Cu (Su l.2 e.BH l.1 []) λr=>GZ ⟨18,bE,bE,0,0,0,0,⟨l.2,r⟩,[a],t.BH⟩)
def qI(en:Int)(g:Ek->Rd Nd)(li:Rd (List Nd)):Rd Nd:=iV en λt=>aV<|Cu (Ky en Mh) λ_=>Cu (g .ex) λa=>Cu (Ky en ZG) λ_=>Cu li λl=>Rq (1+l.length)<|Cu (Ky en Pl) λ_=>GZ (FK 17 t.text bE 0 (a::l) t.BH)
def qR(t:Tk):Rd Nd:=aV (GZ (FK 14 t.text bE 0 [] t.BH))
def gM(en:Int)(g:Ek->Rd Nd)(t:Tk):Rd Nd :=
 cond (BE t.text.data.toList SN.data.toList) (aV (GZ (FK 11 bE Ey 1 [] t.BH))) <|
 cond (BE t.text.data.toList NB.data.toList) (aV (GZ (FK 11 bE Ey 0 [] t.BH))) <|
 cond (BE t.text.data.toList bU.data.toList) (aV (Cu (QL en 1) λp=>GZ (FK 13 bE bE p.1 [] t.BH))) <|
 cond (BE t.text.data.toList Hw.data.toList) (qR t)<|cond (BE t.text.data.toList WK.data.toList) (qR t)<|cond (BE t.text.data.toList LN.data.toList) (qR t)<|cond (BE t.text.data.toList Qi.data.toList) (qR t) <|
 cond (BE t.text.data.toList Jl.data.toList) (g .ca)<|cond (BE t.text.data.toList EP.data.toList) (g .ca)<|cond (BE t.text.data.toList MD.data.toList) (g .ta) <|
 cond (BE t.text.data.toList Mh.data.toList) (aV (Cu (g .ex) λa=>Cu (Ky en Pl) λ_=>GZ a)) (Pn 71 t.BH)
def abG(en:Int)(g:Ek->Rd Nd):Rd Nd:=iV en λt=>
 cond (Bg t.kind 3) (Cu (Uu en) λn=>Rr sM (GZ (FK 11 bE Dw n.1 [] n.2)) (GZ (FK 11 bE CW n.1 [] n.2)))
   (cond (Bg t.kind 2) (aV (Cu (Qc en Gh) λa=>Oo (EF a) λc=>GZ (FK 11 bE t.text c [] t.BH)))
     (Oo (CO t) λb=>cond b (aV (GZ (FK 12 t.text bE 0 [] t.BH))) (g (.wd t))))
def opsOf:Nat->List ByteArray
 |0=>[kZ]
 |1=>[QY]
 |3=>[JV,JU,Ns,Jo,QK,Mz]
 |4=>[Ro,Em]
 |5=>[Sf,CK,jQ]
 |_=>[]
def opR{β:Type}(yes:ByteArray->Rd β)(no:Rd β):List ByteArray->Rd β
 |[]=>no
 |x::xs=>Rr x (yes x) (opR yes no xs)
def T6(en:Int)(sub:Rd Nd)(op:ByteArray)(l:Nd):Rd Nd:=Cu (cond (BE op.data.toList CK.data.toList) (JK en) sub) λr=>Oo (Bh op l r) λb=>GZ b
def Mq(en:Int)(ops:List ByteArray)(sub:Rd Nd):Nat->Nd->Rd Nd
 |0,_=>λ_=>none
 |q+1,l=>opR (λop=>Cu (T6 en sub op l) λb=>Mq en ops sub q b) (GZ l) ops
def Qy(en:Int)(g:Ek->Rd Nd)(i:Nat):Rd Nd:=Cu (g (.lv (i+1))) λl s=>Mq en (opsOf i) (g (.lv (i+1))) (s.length+1) l s
def akN(en:Int)(g:Ek->Rd Nd):Rd Nd:=Cu (g (.lv 4)) λl=>opR (λop=>T6 en (g (.lv 4)) op l) (GZ l) (opsOf 3)
def iS(en:Int)(g:Ek->Rd Nd):Rd Nd:=λs=>cond (Mk UO s) (Cu (Ky en UO) (λt=>Cu (g (.lv 2)) λk=>GZ (FK 15 bE bE 0 [k] t.BH)) s) (g (.lv 3) s)
def XG(en:Int)(g:Ek->Rd Nd)(li:Rd (List Nd)):Ek->Rd Nd
 |.ex=>g (.lv 0)
 |.lv 2=>iS en g
 |.lv 3=>akN en g
 |.lv 6=>g .at_
 |.lv i=>Qy en g i
 |.at_=>abG en g
 |.wd t=>gM en g t
 |.ca=>qI en g li
 |.ta=>aaG en g
def gP(en:Int):Nat->(Ek->Rd Nd)×Rd (List Nd)
 |0=>(λ_ _=>none,λ_=>none)
 |q+1=>(XG en (gP en q).1 (gP en q).2,Xa ((gP en q).1 .ex))
def LC(en:Int)(ex:Rd Nd)(kind:Int):Rd Nd:=iV en λt=>aV <|
 cond (Bg kind 7) (Cu (Xa (JK en)) λl=>Cu (Ky en VW) λ_=>GZ (FK kind bE bE 0 l t.BH)) (Cu ex λe=>Cu (Ky en VW) λ_=>GZ (FK kind bE bE 0 [e] t.BH))
def K6(en:Int)(ex:Rd Nd)(mk:List Nd->Nd):Nat->List Nd->Bool->Bool->Rd Nd
 |0,_,_,_=>λ_=>none
 |q+1,l,un,am=>iV en λt=>
  cond (BE t.text.data.toList Vl.data.toList) (Cu (LC en ex 6) λc=>Rq (l.length+1) (K6 en ex mk q (l++[c]) un am)) <|
  cond (BE t.text.data.toList MW.data.toList) (cond un (Pn 5 t.BH) (Cu (LC en ex 7) λc=>Rq (l.length+1) (K6 en ex mk q (l++[c]) true am))) <|
  cond (BE t.text.data.toList Lz.data.toList) (cond am (Pn 5 t.BH) (Cu (LC en ex 8) λc=>Rq (l.length+1) (K6 en ex mk q (l++[c]) un true))) <|
  cond (BE t.text.data.toList zE.data.toList) (cond am (aV (GZ (mk l))) (Pn 71 t.BH)) (Pn 71 t.BH)
def Tm(en:Int)(ex:Rd Nd):Rd Nd:=Cu (Ky en E4) λt=>Cu (QL en 1) λn=>Cu (Ky en iI) λ_=>Cu (acO en) λm=>Cu (rR en) λh=>Cu (Ky en ahD) λ_=>λs=>
 K6 en ex (λl=>FK 4 m.text bE n.1 l t.BH) (s.length+1) [h] false false s
def W6(en:Int)(ex:Rd Nd):Rd Nd:=iV en λt=>
 cond (BE t.text.data.toList PZ.data.toList) (Y0 en)<|cond (BE t.text.data.toList LJ.data.toList) (Y0 en)<|cond (BE t.text.data.toList E4.data.toList) (Tm en ex) (Pn 71 t.BH)
theorem rJ:∀(n:Nat)(a b:Int),1<=a->0<=b->b < n->∃m,CT (λx:Int×Int=>EH x.1 x.2) m (a,b)=some (.inl (xL n a b))/\1<=xL n a b/\xL n a b∣a/\xL n a b∣b:=by
 intro n
 induction n with
 |zero=>intro a b h1 h2 h3;omega
 |succ n ih=>
  intro a b h1 h2 h3;unfold xL;by_cases hb:b=0;rw[if_pos hb];subst hb;refine⟨1,?_,h1,Int.dvd_refl a,Int.dvd_zero a⟩;show(EH a 0).bind _=_;rw[EH,Vd rfl];rfl;rw[if_neg hb];obtain⟨m,h4,h5,h6,h7⟩:=ih b (a % b) (by omega) (Int.emod_nonneg a hb) (by have:=Int.emod_lt_of_pos a (show 0 < b by omega);omega);refine⟨m+1,?_,h5,?_,h6⟩;show(EH a b).bind _=_;rw[EH,Kx hb]
  have:WN a b=some (a % b):=by unfold WN KS;rw[if_neg hb,Int.tmod_eq_emod_of_nonneg (by omega)]
  dsimp only[cond];rw[this];exact h4;have:=Int.dvd_add h7 (Int.dvd_mul_of_dvd_left h6:_∣b*(a / b));rwa[Int.emod_add_mul_ediv] at this
theorem alU{a b g:Int}(h:alT a b=some g):Cw a b=some g:=by unfold alT at h;split at h;rename_i hc;cases h;obtain⟨m,h1,_⟩:=rJ (b.toNat+1) a b hc.1 hc.2 (by omega);unfold Cw;rw[D0 h1];rfl;cases h
theorem alV{a b:Int}(ha:1<=a)(hb:0<=b):∃g,alT a b=some g/\1<=g/\g∣a/\g∣b:=by obtain⟨m,_,h1⟩:=rJ (b.toNat+1) a b ha hb (by omega);exact⟨_,if_pos ⟨ha,hb⟩,h1⟩
section
variable {α β γ:Type}{ts:List Tk}{k:Nat}{en:Int}{r:α⊕Dg}{l:List Tk}
def Jz(ts:List Tk)(k:Nat)(X:Option ((α⊕Dg)×Int))(r:α⊕Dg)(l:List Tk):Prop:=∃k':Nat,k<=k'/\k'<=ts.length/\l=ts.drop k'/\X=some (r,(k':Int))
theorem Ea(hk:k<=ts.length){q:α⊕Dg}{z:Int}(hz:z=(k:Int))(h:some (q,ts.drop k)=some (r,l)):Jz ts k (some (q,z)) r l:=by simp only[aUQ,bbI] at h;exact⟨k,aHT k,hk,h.2.symm,by rw[h.1,hz]⟩
theorem L2{k2:Nat}{X:Option ((α⊕Dg)×Int)}(h1:k<=k2)(h:Jz ts k2 X r l):Jz ts k X r l:=by obtain⟨k',a,b,c,d⟩:=h;exact⟨k',bbM h1 a,b,c,d⟩
theorem Bj{F1:Option ((γ⊕Dg)×Int)}{F2:(γ⊕Dg)×Int->Option ((α⊕Dg)×Int)}{m:Rd γ}{K:γ->Rd α}
   (h1:∀{r l},m (ts.drop k)=some (r,l)->Jz ts k F1 r l)
   (h2:∀a k',k<=k'->k'<=ts.length->K a (ts.drop k')=some (r,l)->Jz ts k' (F2 (.inl a,(k':Int))) r l)
   (h3:∀d z,F2 (.inr d,z)=some (.inr d,z)) (hS:Cu m K (ts.drop k)=some (r,l)):Jz ts k (F1.bind F2) r l:=by
 unfold Cu at hS;split at hS;cases hS;rename_i a s hm;obtain⟨k',a1,a2,rfl,a4⟩:=h1 hm;rw[a4];exact L2 a1 (h2 _ _ a1 a2 hS);rename_i d s hm;obtain⟨k',a1,a2,rfl,a4⟩:=h1 hm;rw[a4,TC,h3];simp only[aUQ,bbI] at hS;exact⟨k',a1,a2,hS.2.symm,by rw[hS.1]⟩
theorem M8{X:Option γ}{K:γ->Rd α}{s:List Tk}(h:Oo X K s=some (r,l)):∃a,X=some a/\K a s=some (r,l):=by unfold Oo at h;split at h;cases h;exact⟨_,rfl,h⟩
theorem JF(ts:List Tk)(hk:k<=ts.length):(k=ts.length/\ts.drop k=[])\/∃t,k+1<=ts.length/\ts[k]?=some t/\ts.drop k=t::ts.drop (k+1):=by by_cases h:k < ts.length;exact .inr ⟨ts[k],h,atS h,(beV h)⟩;exact .inl ⟨by omega,bbX (by omega)⟩
theorem YC{F2:Tk⊕Dg->Option ((α⊕Dg)×Int)}{K:Tk->Rd α}(hk:k<=ts.length)
   (h2:∀t,k+1<=ts.length->ts.drop k=t::ts.drop (k+1)->K t (ts.drop k)=some (r,l)->Jz ts k (F2 (.inl t)) r l)
   (h3:∀d,F2 (.inr d)=some (.inr d,(k:Int))) (hS:iV en K (ts.drop k)=some (r,l)):Jz ts k ((At ⟨ts,k,en⟩).bind F2) r l:=by
 unfold iV at hS;rcases JF ts hk with ⟨h1,vV⟩ | ⟨t,h1,vV,h3'⟩
 rw[vV] at hS;dsimp only at hS
 have:At ⟨ts,k,en⟩=some (.inr ⟨72,en⟩):=by unfold At;rw[eA (by dsimp only;omega)];rfl
 rw[this,TC,h3];simp only[aUQ,bbI] at hS;exact⟨k,aHT k,hk,by rw[vV,hS.2],by rw[hS.1]⟩;rw[h3'] at hS;dsimp only at hS
 have:At ⟨ts,k,en⟩=some (.inl t):=by unfold At;rw[W9 (by dsimp only;omega)];dsimp only[cond];unfold FI;rw[if_pos (by omega),aUW,vV];rfl
 rw[this,TC];exact h2 t h1 h3' (by rw[h3'];exact hS)
theorem GL(hk:k<=ts.length)(x:ByteArray):Ak ⟨ts,k,en⟩ x=some (Mk x (ts.drop k)):=by
 unfold Ak;rcases JF ts hk with ⟨h1,vV⟩ | ⟨t,h1,vV,h3'⟩
 rw[vV,EA (by dsimp only;omega)];rfl;rw[h3',F5 (by dsimp only;omega)];dsimp only[cond];unfold FI;rw[if_pos (by omega),aUW,vV];rfl
theorem fQ{x:ByteArray}(hk:k<=ts.length)(h:Mk x (ts.drop k)=true):∃t,k+1<=ts.length/\ts.drop k=t::ts.drop (k+1):=by
 rcases JF ts hk with ⟨h1,vV⟩ | ⟨t,h1,vV,h3'⟩
 rw[vV] at h;cases h;exact⟨t,h1,h3'⟩
theorem Eo(DK:ts.length<=1000000)(hk:k<=ts.length):Ba (k:Int) 1=((k+1:Nat):Int):=by rw[BS (by omega)];rfl
theorem iT{K:Rd α}{t:Tk}(ht:ts.drop k=t::ts.drop (k+1))(h:aV K (ts.drop k)=some (r,l)):K (ts.drop (k+1))=some (r,l):=by rw[ht] at h;exact h
theorem adI{F2:Bool->Option ((α⊕Dg)×Int)}{A B:Rd α}{x:ByteArray}(hk:k<=ts.length)
   (h1:k+1<=ts.length->A (ts.drop (k+1))=some (r,l)->Jz ts (k+1) (F2 true) r l) (h2:B (ts.drop k)=some (r,l)->Jz ts k (F2 false) r l)
   (hS:Rr x A B (ts.drop k)=some (r,l)):Jz ts k ((Ak ⟨ts,k,en⟩ x).bind F2) r l:=by
 unfold Rr at hS;rw[GL hk,TC];cases hx:Mk x (ts.drop k) with
 |true=>
  rw[hx] at hS;obtain⟨t,ht1,ht2⟩:=fQ hk hx;exact L2 (beC k) (h1 ht1 (iT ht2 hS))
 |false=>
  rw[hx] at hS;exact h2 hS
end
section
variable {ts:List Tk}(DK:ts.length<=1000000){en:Int}
include DK
theorem Sx(fits:Tk->Option Bool){k:Nat}(hk:k<=ts.length){r l}(hS:Qc en fits (ts.drop k)=some (r,l)) :
   Jz ts k ((At ⟨ts,k,en⟩).bind λy1=>aHR (λ(G4:Tk)=>(fits G4).bind λy2=>cond y2 (some ((bbL G4:(Tk⊕Dg)),(Ba (k:Int) 1))) (some ((aHU (⟨71,G4.BH⟩:Dg):(Tk⊕Dg)),(k:Int)))) (λ(QS:Dg)=>some ((aHU QS:(Tk⊕Dg)),(k:Int))) y1) r l:=by
 refine YC hk (λt h1 h2 hS=>?_) (λ_=>rfl) hS;obtain⟨b,hb,hS⟩:=M8 hS;dsimp only[aHR];rw[hb,TC];cases b with
 |true=>
  have:=iT h2 hS;rw[cond,Eo DK hk];exact L2 (beC k) (Ea h1 rfl this)
 |false=>exact Ea hk rfl hS
theorem I6(x:ByteArray){k:Nat}(hk:k<=ts.length){r l}(hS:Ky en x (ts.drop k)=some (r,l)):Jz ts k (Ae ⟨ts,k,en⟩ x) r l:=by obtain⟨k',a1,a2,a3,a4⟩:=Sx DK (λt=>D5 t x) hk hS;refine⟨k',a1,a2,a3,?_⟩;unfold Ae IX;rw[a4,TC];cases r<;>rfl
theorem apA{k:Nat}(hk:k<=ts.length){r l}(hS:acO en (ts.drop k)=some (r,l)):Jz ts k (Di ⟨ts,k,en⟩) r l:=Sx DK CO hk hS
theorem aMF{k:Nat}(hk:k<=ts.length){r l}(hS:atC en (ts.drop k)=some (r,l)):Jz ts k (Gk ⟨ts,k,en⟩) r l:=Sx DK F0 hk hS
theorem aLI{k:Nat}(hk:k<=ts.length){r l}(hS:adM en (ts.drop k)=some (r,l)):Jz ts k (Ix ⟨ts,k,en⟩) r l:=Sx DK B0 hk hS
theorem sR{k:Nat}(hk:k<=ts.length){r l}(hS:Uu en (ts.drop k)=some (r,l)):Jz ts k (EJ ⟨ts,k,en⟩) r l:=by refine Bj (λh=>Sx DK Fq hk h) (λt k' h1 h2 hS=>?_) (λ_ _=>rfl) hS;obtain⟨n,hn,hS⟩:=M8 hS;dsimp only[aHR];rw[hn];exact Ea h2 rfl hS
theorem P6(least:Int){k:Nat}(hk:k<=ts.length){r l}(hS:QL en least (ts.drop k)=some (r,l)):Jz ts k (Ay ⟨ts,k,en⟩ least) r l:=by
 refine Bj (λh=>sR DK hk h) (λt k' h1 h2 hS=>?_) (λ_ _=>rfl) hS;dsimp only[aHR];revert hS;cases CV t.1 least;cases CV 1000000 t.1<;>exact λhS=>Ea h2 rfl hS
 exact λhS=>Ea h2 rfl hS
theorem mW(least:Int){k:Nat}(hk:k<=ts.length){r l}(hS:YZ en least (ts.drop k)=some (r,l)):Jz ts k (Dz ⟨ts,k,en⟩ least) r l:=by refine Bj (λh=>Sx DK Gi hk h) (λt k' h1 h2 hS=>?_) (λ_ _=>rfl) hS;obtain⟨n,hn,hS⟩:=M8 hS;dsimp only[aHR];rw[hn,TC];revert hS;cases Bg n.2 0;exact λhS=>Ea h2 rfl hS;cases CV n.1 least<;>exact λhS=>Ea h2 rfl hS
theorem aHZ{k:Nat}(hk:k<=ts.length){r l}(hS:rR en (ts.drop k)=some (r,l)):Jz ts k (JP ⟨ts,k,en⟩) r l:=by refine Bj (λh=>I6 DK _ hk h) (λt k h hk hS=>?_) (λ_ _=>rfl) hS;refine Bj (λh=>P6 DK _ hk h) (λn k h hk hS=>?_) (λ_ _=>rfl) hS;refine Bj (λh=>I6 DK _ hk h) (λ_ k h hk hS=>?_) (λ_ _=>rfl) hS;refine Bj (λh=>mW DK _ hk h) (λf k h hk hS=>?_) (λ_ _=>rfl) hS;refine adI hk (λhk1 hS=>?_) (λhS=>?_) hS;dsimp only[cond];rw[Eo DK hk];refine Bj (λh=>mW DK _ hk1 h) (λu k h hk hS=>?_) (λ_ _=>rfl) hS;refine Bj (λh=>I6 DK _ hk h) (λ_ k h hk hS=>?_) (λ_ _=>rfl) hS;refine Bj (λh=>mW DK _ hk h) (λf k h hk hS=>?_) (λ_ _=>rfl) hS;exact Ea hk rfl hS;refine Bj (λh=>I6 DK _ hk h) (λ_ k h hk hS=>?_) (λ_ _=>rfl) hS;refine Bj (λh=>mW DK _ hk h) (λf k h hk hS=>?_) (λ_ _=>rfl) hS;exact Ea hk rfl hS
theorem akW{k:Nat}(hk:k<=ts.length){r l}(hS:Y0 en (ts.drop k)=some (r,l)):Jz ts k (Dh ⟨ts,k,en⟩) r l:=by refine YC hk (λt h1 h2 hS=>?_) (λ_=>rfl) hS;have hS:=iT h2 hS;dsimp only[aHR];rw[Eo DK hk];refine L2 (beC k) ?_;refine Bj (λh=>apA DK h1 h) (λm k h hk hS=>?_) (λ_ _=>rfl) hS;refine Bj (λh=>I6 DK _ hk h) (λ_ k h hk hS=>?_) (λ_ _=>rfl) hS;refine Bj (λh=>aMF DK hk h) (λu k h hk hS=>?_) (λ_ _=>rfl) hS;dsimp only[aHR];revert hS;cases BE t.text.data.toList LJ.data.toList;intro hS;refine Bj (λh=>I6 DK _ hk h) (λ_ k h hk hS=>?_) (λ_ _=>rfl) hS;exact Ea hk rfl hS;intro hS;refine Bj (λh=>aLI DK hk h) (λq k h hk hS=>?_) (λ_ _=>rfl) hS;obtain⟨n,hn,hS⟩:=M8 hS;dsimp only[aHR];rw[hn,TC];refine Bj (λh=>I6 DK _ hk h) (λ_ k h hk hS=>?_) (λ_ _=>rfl) hS;exact Ea hk rfl hS
theorem Xb{k:Nat}(hk:k<=ts.length){r l}(hS:JK en (ts.drop k)=some (r,l)):Jz ts k (AD ⟨ts,k,en⟩) r l:=by refine Bj (λh=>P6 DK _ hk h) (λn k h hk hS=>?_) (λ_ _=>rfl) hS;exact Ea hk rfl hS
theorem pA{k:Nat}(hk:k<=ts.length){r l}(hS:Wc en (ts.drop k)=some (r,l)):Jz ts k (BL ⟨ts,k,en⟩) r l:=by refine Bj (λh=>Sx DK Dq hk h) (λt k' h1 h2 hS=>?_) (λ_ _=>rfl) hS;obtain⟨n,hn,hS⟩:=M8 hS;dsimp only[aHR];rw[hn,TC];revert hS;cases Bg t.kind 3;exact λhS=>Ea h2 rfl hS;cases Bg n 0<;>exact λhS=>Ea h2 rfl hS
theorem arR{k:Nat}(hk:k<=ts.length){r l}(hS:uR en (ts.drop k)=some (r,l)):Jz ts k (B1 ⟨ts,k,en⟩) r l:=by refine Bj (λh=>Sx DK Gj hk h) (λt k' h1 h2 hS=>?_) (λ_ _=>rfl) hS;dsimp only[aHR];revert hS;cases BE t.text.data.toList Em.data.toList<;>exact λhS=>Ea h2 rfl hS
end
section
variable {α β:Type}{ts:List Tk}{k:Nat}{en:Int}{r:α⊕Dg}{l:List Tk}
theorem R6(N:Nd):(⟨N.kind,N.name,N.unit,N.n,N.fr,N.to,N.known,⟨N.Cg.den,N.Cg.ps⟩,N.kids,N.BH⟩:Nd)=N:=by cases N;rfl
theorem OP{m:Rd β}{K:β->Rd α}{s:List Tk}(h:Cu m K s=some (r,l)):(∃a s',m s=some (.inl a,s')/\K a s'=some (r,l))\/∃d,m s=some (.inr d,l)/\r=.inr d:=by unfold Cu at h;split at h;cases h;rename_i a s' hm;exact .inl ⟨a,s',hm,h⟩;rename_i d s' hm;simp only[aUQ,bbI] at h;exact .inr ⟨d,by rw[hm,h.2],h.1.symm⟩
theorem L4{A B:Rd α}{x:ByteArray}(hk:k<=ts.length)(h:Rr x A B (ts.drop k)=some (r,l)) :
   (Mk x (ts.drop k)=true/\k+1<=ts.length/\A (ts.drop (k+1))=some (r,l))\/(Mk x (ts.drop k)=false/\B (ts.drop k)=some (r,l)):=by
 unfold Rr at h;cases hx:Mk x (ts.drop k) with
 |true=>
  rw[hx] at h;obtain⟨t,ht1,ht2⟩:=fQ hk hx;exact .inl ⟨rfl,ht1,iT ht2 h⟩
 |false=>
  rw[hx] at h;exact .inr ⟨rfl,h⟩
theorem apM{K:Rd α}(hk:k<=ts.length)(h:aV K (ts.drop k)=some (r,l)):k+1<=ts.length/\K (ts.drop (k+1))=some (r,l):=by
 rcases JF ts hk with ⟨h1,vV⟩ | ⟨t,h1,vV,h3'⟩
 rw[vV] at h;cases h;exact⟨h1,iT h3' h⟩
theorem TI{n:Nat}{m:Rd α}{s:List Tk}(h:Rq n m s=some (r,l)):n<=100000000/\m s=some (r,l):=acJ h
theorem Pp{a:β}{q:β⊕Dg}{s:List Tk}(h:GZ a s=some (q,l)):q=.inl a/\l=s:=by simp only[GZ,aUQ,bbI] at h;exact⟨h.1.symm,h.2.symm⟩
theorem Q6{e p:Int}{s:List Tk}(h:Pn e p s=some (r,l)):r=.inr ⟨e,p⟩/\l=s:=by simp only[Pn,aUQ,bbI] at h;exact⟨h.1.symm,h.2.symm⟩
theorem axS{yes:ByteArray->Rd α}{no:Rd α}(hk:k<=ts.length)(hS:opR yes no (opsOf 0) (ts.drop k)=some (r,l)) :
   (∃x,k+1<=ts.length/\DA ⟨ts,k,en⟩=some (x,true)/\yes x (ts.drop (k+1))=some (r,l))\/(DA ⟨ts,k,en⟩=some (bE,false)/\no (ts.drop k)=some (r,l)):=by
 unfold DA;simp only[GL hk,TC];rcases L4 hk hS with ⟨h0,h,hy⟩ | ⟨h0,hS⟩
 refine .inl ⟨_,h,?_,hy⟩;simp only[h0,cond_true,cond_false];refine .inr ⟨?_,hS⟩;simp only[h0,cond_false]
theorem axT{yes:ByteArray->Rd α}{no:Rd α}(hk:k<=ts.length)(hS:opR yes no (opsOf 1) (ts.drop k)=some (r,l)) :
   (∃x,k+1<=ts.length/\DB ⟨ts,k,en⟩=some (x,true)/\yes x (ts.drop (k+1))=some (r,l))\/(DB ⟨ts,k,en⟩=some (bE,false)/\no (ts.drop k)=some (r,l)):=by
 unfold DB;simp only[GL hk,TC];rcases L4 hk hS with ⟨h0,h,hy⟩ | ⟨h0,hS⟩
 refine .inl ⟨_,h,?_,hy⟩;simp only[h0,cond_true,cond_false];refine .inr ⟨?_,hS⟩;simp only[h0,cond_false]
theorem axU{yes:ByteArray->Rd α}{no:Rd α}(hk:k<=ts.length)(hS:opR yes no (opsOf 3) (ts.drop k)=some (r,l)) :
   (∃x,k+1<=ts.length/\DC ⟨ts,k,en⟩=some (x,true)/\yes x (ts.drop (k+1))=some (r,l))\/(DC ⟨ts,k,en⟩=some (bE,false)/\no (ts.drop k)=some (r,l)):=by
 unfold DC;simp only[GL hk,TC];rcases L4 hk hS with ⟨h0,h,hy⟩ | ⟨h0,hS⟩
 refine .inl ⟨_,h,?_,hy⟩;simp only[h0,cond_true,cond_false];rcases L4 hk hS with ⟨h1,h,hy⟩ | ⟨h1,hS⟩
 refine .inl ⟨_,h,?_,hy⟩;simp only[h0,h1,cond_true,cond_false];rcases L4 hk hS with ⟨h2,h,hy⟩ | ⟨h2,hS⟩
 refine .inl ⟨_,h,?_,hy⟩;simp only[h0,h1,h2,cond_true,cond_false];rcases L4 hk hS with ⟨h3,h,hy⟩ | ⟨h3,hS⟩
 refine .inl ⟨_,h,?_,hy⟩;simp only[h0,h1,h2,h3,cond_true,cond_false];rcases L4 hk hS with ⟨h4,h,hy⟩ | ⟨h4,hS⟩
 refine .inl ⟨_,h,?_,hy⟩;simp only[h0,h1,h2,h3,h4,cond_true,cond_false];rcases L4 hk hS with ⟨h5,h,hy⟩ | ⟨h5,hS⟩
 refine .inl ⟨_,h,?_,hy⟩;simp only[h0,h1,h2,h3,h4,h5,cond_true,cond_false];refine .inr ⟨?_,hS⟩;simp only[h0,h1,h2,h3,h4,h5,cond_false]
theorem axV{yes:ByteArray->Rd α}{no:Rd α}(hk:k<=ts.length)(hS:opR yes no (opsOf 4) (ts.drop k)=some (r,l)) :
   (∃x,k+1<=ts.length/\DD ⟨ts,k,en⟩=some (x,true)/\yes x (ts.drop (k+1))=some (r,l))\/(DD ⟨ts,k,en⟩=some (bE,false)/\no (ts.drop k)=some (r,l)):=by
 unfold DD;simp only[GL hk,TC];rcases L4 hk hS with ⟨h0,h,hy⟩ | ⟨h0,hS⟩
 refine .inl ⟨_,h,?_,hy⟩;simp only[h0,cond_true,cond_false];rcases L4 hk hS with ⟨h1,h,hy⟩ | ⟨h1,hS⟩
 refine .inl ⟨_,h,?_,hy⟩;simp only[h0,h1,cond_true,cond_false];refine .inr ⟨?_,hS⟩;simp only[h0,h1,cond_false]
theorem axW{yes:ByteArray->Rd α}{no:Rd α}(hk:k<=ts.length)(hS:opR yes no (opsOf 5) (ts.drop k)=some (r,l)) :
   (∃x,k+1<=ts.length/\DE ⟨ts,k,en⟩=some (x,true)/\yes x (ts.drop (k+1))=some (r,l))\/(DE ⟨ts,k,en⟩=some (bE,false)/\no (ts.drop k)=some (r,l)):=by
 unfold DE;simp only[GL hk,TC];rcases L4 hk hS with ⟨h0,h,hy⟩ | ⟨h0,hS⟩
 refine .inl ⟨_,h,?_,hy⟩;simp only[h0,cond_true,cond_false];rcases L4 hk hS with ⟨h1,h,hy⟩ | ⟨h1,hS⟩
 refine .inl ⟨_,h,?_,hy⟩;simp only[h0,h1,cond_true,cond_false];rcases L4 hk hS with ⟨h2,h,hy⟩ | ⟨h2,hS⟩
 refine .inl ⟨_,h,?_,hy⟩;simp only[h0,h1,h2,cond_true,cond_false];refine .inr ⟨?_,hS⟩;simp only[h0,h1,h2,cond_false]
end
structure Agr(R:Ac)(ts:List Tk)(en:Int)(g:Ek->Rd Nd)(li:Rd (List Nd)):Prop where
 ex:∀{k:Nat},k<=ts.length->∀{r l},g .ex (ts.drop k)=some (r,l)->Jz ts k (R.AB ⟨ts,k,en⟩) r l
 l0:∀{k:Nat},k<=ts.length->∀{r l},g (.lv 0) (ts.drop k)=some (r,l)->Jz ts k (R.D3 ⟨ts,k,en⟩) r l
 l1:∀{k:Nat},k<=ts.length->∀{r l},g (.lv 1) (ts.drop k)=some (r,l)->Jz ts k (R.BV ⟨ts,k,en⟩) r l
 l2:∀{k:Nat},k<=ts.length->∀{r l},g (.lv 2) (ts.drop k)=some (r,l)->Jz ts k (R.Bs ⟨ts,k,en⟩) r l
 l3:∀{k:Nat},k<=ts.length->∀{r l},g (.lv 3) (ts.drop k)=some (r,l)->Jz ts k (R.Cr ⟨ts,k,en⟩) r l
 l4:∀{k:Nat},k<=ts.length->∀{r l},g (.lv 4) (ts.drop k)=some (r,l)->Jz ts k (R.Cs ⟨ts,k,en⟩) r l
 l5:∀{k:Nat},k<=ts.length->∀{r l},g (.lv 5) (ts.drop k)=some (r,l)->Jz ts k (R.BW ⟨ts,k,en⟩) r l
 l6:∀{k:Nat},k<=ts.length->∀{r l},g (.lv 6) (ts.drop k)=some (r,l)->Jz ts k (R.BX ⟨ts,k,en⟩) r l
 at_:∀{k:Nat},k<=ts.length->∀{r l},g .at_ (ts.drop k)=some (r,l)->Jz ts k (R.Fc ⟨ts,k,en⟩) r l
 wd:∀(t:Tk){k:Nat},k<=ts.length->∀{r l},g (.wd t) (ts.drop k)=some (r,l)->Jz ts k (R.Fe ⟨ts,k,en⟩ t) r l
 ca:∀{k:Nat},k<=ts.length->∀{r l},g .ca (ts.drop k)=some (r,l)->Jz ts k (R.CZ ⟨ts,k,en⟩) r l
 ta:∀{k:Nat},k<=ts.length->∀{r l},g .ta (ts.drop k)=some (r,l)->Jz ts k (R.EQ ⟨ts,k,en⟩) r l
 li:∀{k:Nat},k<=ts.length->∀{r l},li (ts.drop k)=some (r,l)->Jz ts k (R.Dp ⟨ts,k,en⟩) r l
section
variable {ts:List Tk}(DK:ts.length<=1000000){en:Int}
include DK
theorem OA{sub:Rd Nd}{F:Pr->Option ((Nd⊕Dg)×Int)}{k:Nat}(hk:k<=ts.length)(LG:∀{r l},sub (ts.drop k)=some (r,l)->Jz ts k (F ⟨ts,k,en⟩) r l){x:ByteArray}{N:Nd}{r l}(hS:T6 en sub x N (ts.drop k)=some (r,l)) :
   ∃k':Nat,k<=k'/\k'<=ts.length/\l=ts.drop k'/\((∃n b,cond (BE x.data.toList CK.data.toList) (AD ⟨ts,k,en⟩) (F ⟨ts,k,en⟩)=some (.inl n,(k':Int))/\Bh x N n=some b/\r=.inl b)\/∃d,cond (BE x.data.toList CK.data.toList) (AD ⟨ts,k,en⟩) (F ⟨ts,k,en⟩)=some (.inr d,(k':Int))/\r=.inr d):=by
 have key:∀{r l},(cond (BE x.data.toList CK.data.toList) (JK en) sub) (ts.drop k)=some (r,l)->Jz ts k (cond (BE x.data.toList CK.data.toList) (AD ⟨ts,k,en⟩) (F ⟨ts,k,en⟩)) r l:=by intro r l h;revert h;cases BE x.data.toList CK.data.toList;exact λh=>LG h;exact λh=>Xb DK hk h
 rcases OP hS with ⟨n,s',h1,h2⟩ | ⟨d,h1,h2⟩
 obtain⟨b,hb,h2⟩:=M8 h2;obtain⟨rfl,rfl⟩:=Pp h2;obtain⟨k',a1,a2,a3,a4⟩:=key h1;exact⟨k',a1,a2,a3,.inl ⟨n,b,a4,hb,rfl⟩⟩;obtain⟨k',a1,a2,a3,a4⟩:=key h1;exact⟨k',a1,a2,a3,.inr ⟨d,a4,h2⟩⟩
theorem akE{R:Ac}{sub:Rd Nd}(LG:∀{k:Nat},k<=ts.length->∀{r l},sub (ts.drop k)=some (r,l)->Jz ts k (R.BV ⟨ts,k,en⟩) r l)(k0:Int) :
   ∀(q:Nat)(N:Nd)(k:Nat)(r:Nd⊕Dg)(l:List Tk),k<=ts.length->Mq en (opsOf 0) sub q N (ts.drop k)=some (r,l) ->
   ∃k':Nat,k<=k'/\k'<=ts.length/\l=ts.drop k'/\∃n,CT (λx=>Bo R ⟨ts,k0,en⟩ x.1 x.2.1 x.2.2.1 x.2.2.2.1 x.2.2.2.2.1 x.2.2.2.2.2.1 x.2.2.2.2.2.2.1 x.2.2.2.2.2.2.2.1 x.2.2.2.2.2.2.2.2.1 x.2.2.2.2.2.2.2.2.2.1 x.2.2.2.2.2.2.2.2.2.2.1 x.2.2.2.2.2.2.2.2.2.2.2) n (N.kind,N.name,N.unit,N.n,N.fr,N.to,N.known,N.Cg.den,N.Cg.ps,N.kids,N.BH,(k:Int))=some (.inr (r,(k':Int))):=by
 intro q
 induction q with
 |zero=>intro N k r l hk hS;cases hS
 |succ q ih=>
  intro N k r l hk hS;rcases axS (en:=en) hk hS with ⟨x,h1,h2,hS⟩ | ⟨h2,hS⟩
  rcases OP hS with ⟨b,s',h3,h4⟩ | ⟨d,h3,rfl⟩
  obtain⟨k',a1,a2,rfl,⟨n,b',hX,hb,hr⟩ | ⟨d,hX,hr⟩⟩:=OA DK h1 (λh=>LG h1 h) h3;cases hr;obtain⟨k2,b1,b2,b3,m,b4⟩:=ih b k' r l a2 h4;refine⟨k2,by omega,b2,b3,m+1,?_⟩
  have hL:Bo R ⟨ts,k0,en⟩ N.kind N.name N.unit N.n N.fr N.to N.known N.Cg.den N.Cg.ps N.kids N.BH (k:Int)=some (.nx (b.kind,b.name,b.unit,b.n,b.fr,b.to,b.known,b.Cg.den,b.Cg.ps,b.kids,b.BH,(k':Int))):=by
   unfold Bo;dsimp only;rw[h2];dsimp only[bbZ,cond];rw[Eo DK hk];cases hE:BE x.data.toList CK.data.toList <;>
   ·rw[hE] at hX;dsimp only[cond] at hX;dsimp only
    rw[hX];dsimp only[aHR];rw[R6,hb]
  show(Bo R ⟨ts,k0,en⟩ N.kind N.name N.unit N.n N.fr N.to N.known N.Cg.den N.Cg.ps N.kids N.BH (k:Int)).bind _=_;rw[hL];exact b4;cases hr;obtain⟨k',a1,a2,rfl,⟨n,b',hX,hb,hr⟩ | ⟨d',hX,hr⟩⟩:=OA DK h1 (λh=>LG h1 h) h3;cases hr;cases hr;refine⟨k',by omega,a2,rfl,1,?_⟩
  have hL:Bo R ⟨ts,k0,en⟩ N.kind N.name N.unit N.n N.fr N.to N.known N.Cg.den N.Cg.ps N.kids N.BH (k:Int)=some (.rt (.inr d,(k':Int))):=by
   unfold Bo;dsimp only;rw[h2];dsimp only[bbZ,cond];rw[Eo DK hk];cases hE:BE x.data.toList CK.data.toList <;>
   ·rw[hE] at hX;dsimp only[cond] at hX;dsimp only
    rw[hX];rfl
  show(Bo R ⟨ts,k0,en⟩ N.kind N.name N.unit N.n N.fr N.to N.known N.Cg.den N.Cg.ps N.kids N.BH (k:Int)).bind _=_;rw[hL];rfl;obtain⟨rfl,rfl⟩:=Pp hS;refine⟨k,aHT k,hk,rfl,1,?_⟩
  have hL:Bo R ⟨ts,k0,en⟩ N.kind N.name N.unit N.n N.fr N.to N.known N.Cg.den N.Cg.ps N.kids N.BH (k:Int)=some (.rt (.inl N,(k:Int))):=by unfold Bo;dsimp only;rw[h2,R6];rfl
  show(Bo R ⟨ts,k0,en⟩ N.kind N.name N.unit N.n N.fr N.to N.known N.Cg.den N.Cg.ps N.kids N.BH (k:Int)).bind _=_;rw[hL];rfl
theorem aoI{R:Ac}{g:Ek->Rd Nd}(LG:∀{k:Nat},k<=ts.length->∀{r l},g (.lv 1) (ts.drop k)=some (r,l)->Jz ts k (R.BV ⟨ts,k,en⟩) r l){k:Nat}(hk:k<=ts.length){r l}(hS:Qy en g 0 (ts.drop k)=some (r,l)) :
   Jz ts k (Is R ⟨ts,k,en⟩) r l:=by
 refine Bj (λh=>LG hk h) (λN k' h1 h2 hS=>?_) (λ_ _=>rfl) hS;obtain⟨k2,a1,a2,a3,n,a4⟩:=akE DK LG (k:Int) _ N k' r l h2 hS;refine⟨k2,a1,a2,a3,?_⟩;dsimp only[aHR];rw[D0 a4];rfl
theorem akF{R:Ac}{sub:Rd Nd}(LG:∀{k:Nat},k<=ts.length->∀{r l},sub (ts.drop k)=some (r,l)->Jz ts k (R.Bs ⟨ts,k,en⟩) r l)(k0:Int) :
   ∀(q:Nat)(N:Nd)(k:Nat)(r:Nd⊕Dg)(l:List Tk),k<=ts.length->Mq en (opsOf 1) sub q N (ts.drop k)=some (r,l) ->
   ∃k':Nat,k<=k'/\k'<=ts.length/\l=ts.drop k'/\∃n,CT (λx=>Bp R ⟨ts,k0,en⟩ x.1 x.2.1 x.2.2.1 x.2.2.2.1 x.2.2.2.2.1 x.2.2.2.2.2.1 x.2.2.2.2.2.2.1 x.2.2.2.2.2.2.2.1 x.2.2.2.2.2.2.2.2.1 x.2.2.2.2.2.2.2.2.2.1 x.2.2.2.2.2.2.2.2.2.2.1 x.2.2.2.2.2.2.2.2.2.2.2) n (N.kind,N.name,N.unit,N.n,N.fr,N.to,N.known,N.Cg.den,N.Cg.ps,N.kids,N.BH,(k:Int))=some (.inr (r,(k':Int))):=by
 intro q
 induction q with
 |zero=>intro N k r l hk hS;cases hS
 |succ q ih=>
  intro N k r l hk hS;rcases axT (en:=en) hk hS with ⟨x,h1,h2,hS⟩ | ⟨h2,hS⟩
  rcases OP hS with ⟨b,s',h3,h4⟩ | ⟨d,h3,rfl⟩
  obtain⟨k',a1,a2,rfl,⟨n,b',hX,hb,hr⟩ | ⟨d,hX,hr⟩⟩:=OA DK h1 (λh=>LG h1 h) h3;cases hr;obtain⟨k2,b1,b2,b3,m,b4⟩:=ih b k' r l a2 h4;refine⟨k2,by omega,b2,b3,m+1,?_⟩
  have hL:Bp R ⟨ts,k0,en⟩ N.kind N.name N.unit N.n N.fr N.to N.known N.Cg.den N.Cg.ps N.kids N.BH (k:Int)=some (.nx (b.kind,b.name,b.unit,b.n,b.fr,b.to,b.known,b.Cg.den,b.Cg.ps,b.kids,b.BH,(k':Int))):=by
   unfold Bp;dsimp only;rw[h2];dsimp only[bbZ,cond];rw[Eo DK hk];cases hE:BE x.data.toList CK.data.toList <;>
   ·rw[hE] at hX;dsimp only[cond] at hX;dsimp only
    rw[hX];dsimp only[aHR];rw[R6,hb]
  show(Bp R ⟨ts,k0,en⟩ N.kind N.name N.unit N.n N.fr N.to N.known N.Cg.den N.Cg.ps N.kids N.BH (k:Int)).bind _=_;rw[hL];exact b4;cases hr;obtain⟨k',a1,a2,rfl,⟨n,b',hX,hb,hr⟩ | ⟨d',hX,hr⟩⟩:=OA DK h1 (λh=>LG h1 h) h3;cases hr;cases hr;refine⟨k',by omega,a2,rfl,1,?_⟩
  have hL:Bp R ⟨ts,k0,en⟩ N.kind N.name N.unit N.n N.fr N.to N.known N.Cg.den N.Cg.ps N.kids N.BH (k:Int)=some (.rt (.inr d,(k':Int))):=by
   unfold Bp;dsimp only;rw[h2];dsimp only[bbZ,cond];rw[Eo DK hk];cases hE:BE x.data.toList CK.data.toList <;>
   ·rw[hE] at hX;dsimp only[cond] at hX;dsimp only
    rw[hX];rfl
  show(Bp R ⟨ts,k0,en⟩ N.kind N.name N.unit N.n N.fr N.to N.known N.Cg.den N.Cg.ps N.kids N.BH (k:Int)).bind _=_;rw[hL];rfl;obtain⟨rfl,rfl⟩:=Pp hS;refine⟨k,aHT k,hk,rfl,1,?_⟩
  have hL:Bp R ⟨ts,k0,en⟩ N.kind N.name N.unit N.n N.fr N.to N.known N.Cg.den N.Cg.ps N.kids N.BH (k:Int)=some (.rt (.inl N,(k:Int))):=by unfold Bp;dsimp only;rw[h2,R6];rfl
  show(Bp R ⟨ts,k0,en⟩ N.kind N.name N.unit N.n N.fr N.to N.known N.Cg.den N.Cg.ps N.kids N.BH (k:Int)).bind _=_;rw[hL];rfl
theorem aoJ{R:Ac}{g:Ek->Rd Nd}(LG:∀{k:Nat},k<=ts.length->∀{r l},g (.lv 2) (ts.drop k)=some (r,l)->Jz ts k (R.Bs ⟨ts,k,en⟩) r l){k:Nat}(hk:k<=ts.length){r l}(hS:Qy en g 1 (ts.drop k)=some (r,l)) :
   Jz ts k (It R ⟨ts,k,en⟩) r l:=by
 refine Bj (λh=>LG hk h) (λN k' h1 h2 hS=>?_) (λ_ _=>rfl) hS;obtain⟨k2,a1,a2,a3,n,a4⟩:=akF DK LG (k:Int) _ N k' r l h2 hS;refine⟨k2,a1,a2,a3,?_⟩;dsimp only[aHR];rw[D0 a4];rfl
theorem akG{R:Ac}{sub:Rd Nd}(LG:∀{k:Nat},k<=ts.length->∀{r l},sub (ts.drop k)=some (r,l)->Jz ts k (R.BW ⟨ts,k,en⟩) r l)(k0:Int) :
   ∀(q:Nat)(N:Nd)(k:Nat)(r:Nd⊕Dg)(l:List Tk),k<=ts.length->Mq en (opsOf 4) sub q N (ts.drop k)=some (r,l) ->
   ∃k':Nat,k<=k'/\k'<=ts.length/\l=ts.drop k'/\∃n,CT (λx=>Bq R ⟨ts,k0,en⟩ x.1 x.2.1 x.2.2.1 x.2.2.2.1 x.2.2.2.2.1 x.2.2.2.2.2.1 x.2.2.2.2.2.2.1 x.2.2.2.2.2.2.2.1 x.2.2.2.2.2.2.2.2.1 x.2.2.2.2.2.2.2.2.2.1 x.2.2.2.2.2.2.2.2.2.2.1 x.2.2.2.2.2.2.2.2.2.2.2) n (N.kind,N.name,N.unit,N.n,N.fr,N.to,N.known,N.Cg.den,N.Cg.ps,N.kids,N.BH,(k:Int))=some (.inr (r,(k':Int))):=by
 intro q
 induction q with
 |zero=>intro N k r l hk hS;cases hS
 |succ q ih=>
  intro N k r l hk hS;rcases axV (en:=en) hk hS with ⟨x,h1,h2,hS⟩ | ⟨h2,hS⟩
  rcases OP hS with ⟨b,s',h3,h4⟩ | ⟨d,h3,rfl⟩
  obtain⟨k',a1,a2,rfl,⟨n,b',hX,hb,hr⟩ | ⟨d,hX,hr⟩⟩:=OA DK h1 (λh=>LG h1 h) h3;cases hr;obtain⟨k2,b1,b2,b3,m,b4⟩:=ih b k' r l a2 h4;refine⟨k2,by omega,b2,b3,m+1,?_⟩
  have hL:Bq R ⟨ts,k0,en⟩ N.kind N.name N.unit N.n N.fr N.to N.known N.Cg.den N.Cg.ps N.kids N.BH (k:Int)=some (.nx (b.kind,b.name,b.unit,b.n,b.fr,b.to,b.known,b.Cg.den,b.Cg.ps,b.kids,b.BH,(k':Int))):=by
   unfold Bq;dsimp only;rw[h2];dsimp only[bbZ,cond];rw[Eo DK hk];cases hE:BE x.data.toList CK.data.toList <;>
   ·rw[hE] at hX;dsimp only[cond] at hX;dsimp only
    rw[hX];dsimp only[aHR];rw[R6,hb]
  show(Bq R ⟨ts,k0,en⟩ N.kind N.name N.unit N.n N.fr N.to N.known N.Cg.den N.Cg.ps N.kids N.BH (k:Int)).bind _=_;rw[hL];exact b4;cases hr;obtain⟨k',a1,a2,rfl,⟨n,b',hX,hb,hr⟩ | ⟨d',hX,hr⟩⟩:=OA DK h1 (λh=>LG h1 h) h3;cases hr;cases hr;refine⟨k',by omega,a2,rfl,1,?_⟩
  have hL:Bq R ⟨ts,k0,en⟩ N.kind N.name N.unit N.n N.fr N.to N.known N.Cg.den N.Cg.ps N.kids N.BH (k:Int)=some (.rt (.inr d,(k':Int))):=by
   unfold Bq;dsimp only;rw[h2];dsimp only[bbZ,cond];rw[Eo DK hk];cases hE:BE x.data.toList CK.data.toList <;>
   ·rw[hE] at hX;dsimp only[cond] at hX;dsimp only
    rw[hX];rfl
  show(Bq R ⟨ts,k0,en⟩ N.kind N.name N.unit N.n N.fr N.to N.known N.Cg.den N.Cg.ps N.kids N.BH (k:Int)).bind _=_;rw[hL];rfl;obtain⟨rfl,rfl⟩:=Pp hS;refine⟨k,aHT k,hk,rfl,1,?_⟩
  have hL:Bq R ⟨ts,k0,en⟩ N.kind N.name N.unit N.n N.fr N.to N.known N.Cg.den N.Cg.ps N.kids N.BH (k:Int)=some (.rt (.inl N,(k:Int))):=by unfold Bq;dsimp only;rw[h2,R6];rfl
  show(Bq R ⟨ts,k0,en⟩ N.kind N.name N.unit N.n N.fr N.to N.known N.Cg.den N.Cg.ps N.kids N.BH (k:Int)).bind _=_;rw[hL];rfl
theorem aoK{R:Ac}{g:Ek->Rd Nd}(LG:∀{k:Nat},k<=ts.length->∀{r l},g (.lv 5) (ts.drop k)=some (r,l)->Jz ts k (R.BW ⟨ts,k,en⟩) r l){k:Nat}(hk:k<=ts.length){r l}(hS:Qy en g 4 (ts.drop k)=some (r,l)) :
   Jz ts k (Iv R ⟨ts,k,en⟩) r l:=by
 refine Bj (λh=>LG hk h) (λN k' h1 h2 hS=>?_) (λ_ _=>rfl) hS;obtain⟨k2,a1,a2,a3,n,a4⟩:=akG DK LG (k:Int) _ N k' r l h2 hS;refine⟨k2,a1,a2,a3,?_⟩;dsimp only[aHR];rw[D0 a4];rfl
theorem akH{R:Ac}{sub:Rd Nd}(LG:∀{k:Nat},k<=ts.length->∀{r l},sub (ts.drop k)=some (r,l)->Jz ts k (R.BX ⟨ts,k,en⟩) r l)(k0:Int) :
   ∀(q:Nat)(N:Nd)(k:Nat)(r:Nd⊕Dg)(l:List Tk),k<=ts.length->Mq en (opsOf 5) sub q N (ts.drop k)=some (r,l) ->
   ∃k':Nat,k<=k'/\k'<=ts.length/\l=ts.drop k'/\∃n,CT (λx=>Br R ⟨ts,k0,en⟩ x.1 x.2.1 x.2.2.1 x.2.2.2.1 x.2.2.2.2.1 x.2.2.2.2.2.1 x.2.2.2.2.2.2.1 x.2.2.2.2.2.2.2.1 x.2.2.2.2.2.2.2.2.1 x.2.2.2.2.2.2.2.2.2.1 x.2.2.2.2.2.2.2.2.2.2.1 x.2.2.2.2.2.2.2.2.2.2.2) n (N.kind,N.name,N.unit,N.n,N.fr,N.to,N.known,N.Cg.den,N.Cg.ps,N.kids,N.BH,(k:Int))=some (.inr (r,(k':Int))):=by
 intro q
 induction q with
 |zero=>intro N k r l hk hS;cases hS
 |succ q ih=>
  intro N k r l hk hS;rcases axW (en:=en) hk hS with ⟨x,h1,h2,hS⟩ | ⟨h2,hS⟩
  rcases OP hS with ⟨b,s',h3,h4⟩ | ⟨d,h3,rfl⟩
  obtain⟨k',a1,a2,rfl,⟨n,b',hX,hb,hr⟩ | ⟨d,hX,hr⟩⟩:=OA DK h1 (λh=>LG h1 h) h3;cases hr;obtain⟨k2,b1,b2,b3,m,b4⟩:=ih b k' r l a2 h4;refine⟨k2,by omega,b2,b3,m+1,?_⟩
  have hL:Br R ⟨ts,k0,en⟩ N.kind N.name N.unit N.n N.fr N.to N.known N.Cg.den N.Cg.ps N.kids N.BH (k:Int)=some (.nx (b.kind,b.name,b.unit,b.n,b.fr,b.to,b.known,b.Cg.den,b.Cg.ps,b.kids,b.BH,(k':Int))):=by
   unfold Br;dsimp only;rw[h2];dsimp only[bbZ,cond];rw[Eo DK hk];cases hE:BE x.data.toList CK.data.toList <;>
   ·rw[hE] at hX;dsimp only[cond] at hX;dsimp only
    rw[hX];dsimp only[aHR];rw[R6,hb]
  show(Br R ⟨ts,k0,en⟩ N.kind N.name N.unit N.n N.fr N.to N.known N.Cg.den N.Cg.ps N.kids N.BH (k:Int)).bind _=_;rw[hL];exact b4;cases hr;obtain⟨k',a1,a2,rfl,⟨n,b',hX,hb,hr⟩ | ⟨d',hX,hr⟩⟩:=OA DK h1 (λh=>LG h1 h) h3;cases hr;cases hr;refine⟨k',by omega,a2,rfl,1,?_⟩
  have hL:Br R ⟨ts,k0,en⟩ N.kind N.name N.unit N.n N.fr N.to N.known N.Cg.den N.Cg.ps N.kids N.BH (k:Int)=some (.rt (.inr d,(k':Int))):=by
   unfold Br;dsimp only;rw[h2];dsimp only[bbZ,cond];rw[Eo DK hk];cases hE:BE x.data.toList CK.data.toList <;>
   ·rw[hE] at hX;dsimp only[cond] at hX;dsimp only
    rw[hX];rfl
  show(Br R ⟨ts,k0,en⟩ N.kind N.name N.unit N.n N.fr N.to N.known N.Cg.den N.Cg.ps N.kids N.BH (k:Int)).bind _=_;rw[hL];rfl;obtain⟨rfl,rfl⟩:=Pp hS;refine⟨k,aHT k,hk,rfl,1,?_⟩
  have hL:Br R ⟨ts,k0,en⟩ N.kind N.name N.unit N.n N.fr N.to N.known N.Cg.den N.Cg.ps N.kids N.BH (k:Int)=some (.rt (.inl N,(k:Int))):=by unfold Br;dsimp only;rw[h2,R6];rfl
  show(Br R ⟨ts,k0,en⟩ N.kind N.name N.unit N.n N.fr N.to N.known N.Cg.den N.Cg.ps N.kids N.BH (k:Int)).bind _=_;rw[hL];rfl
theorem aoL{R:Ac}{g:Ek->Rd Nd}(LG:∀{k:Nat},k<=ts.length->∀{r l},g (.lv 6) (ts.drop k)=some (r,l)->Jz ts k (R.BX ⟨ts,k,en⟩) r l){k:Nat}(hk:k<=ts.length){r l}(hS:Qy en g 5 (ts.drop k)=some (r,l)) :
   Jz ts k (Iw R ⟨ts,k,en⟩) r l:=by
 refine Bj (λh=>LG hk h) (λN k' h1 h2 hS=>?_) (λ_ _=>rfl) hS;obtain⟨k2,a1,a2,a3,n,a4⟩:=akH DK LG (k:Int) _ N k' r l h2 hS;refine⟨k2,a1,a2,a3,?_⟩;dsimp only[aHR];rw[D0 a4];rfl
end
section
variable {α β γ:Type}{ts:List Tk}{k:Nat}{en:Int}{l:List Tk}
def mC(ts:List Tk)(k:Nat)(X:Option ((Pt⊕Dg)×Int×Int))(r:(Pt×Int)⊕Dg)(l:List Tk):Prop:=∃k':Nat,k<=k'/\k'<=ts.length/\l=ts.drop k'/\match r with|.inl x=>X=some (.inl x.1,(k':Int),x.2)|.inr d=>∃c,X=some (.inr d,(k':Int),c)
variable {r:(Pt×Int)⊕Dg}
theorem adH{k2:Nat}{X:Option ((Pt⊕Dg)×Int×Int)}(h1:k<=k2)(h:mC ts k2 X r l):mC ts k X r l:=by obtain⟨k',a,b,c,d⟩:=h;exact⟨k',bbM h1 a,b,c,d⟩
theorem Jb{F1:Option ((γ⊕Dg)×Int)}{F2:(γ⊕Dg)×Int->Option ((Pt⊕Dg)×Int×Int)}{m:Rd γ}{K:γ->Rd (Pt×Int)}
   (h1:∀{r l},m (ts.drop k)=some (r,l)->Jz ts k F1 r l)
   (h2:∀a k',k<=k'->k'<=ts.length->K a (ts.drop k')=some (r,l)->mC ts k' (F2 (.inl a,(k':Int))) r l)
   (h3:∀d z,∃c,F2 (.inr d,z)=some (.inr d,z,c)) (hS:Cu m K (ts.drop k)=some (r,l)):mC ts k (F1.bind F2) r l:=by
 rcases OP hS with ⟨a,s',hm,hS⟩ | ⟨d,hm,rfl⟩
 obtain⟨k',a1,a2,rfl,a4⟩:=h1 hm;rw[a4];exact adH a1 (h2 _ _ a1 a2 hS);obtain⟨k',a1,a2,a3,a4⟩:=h1 hm;obtain⟨c,hc⟩:=h3 d k';exact⟨k',a1,a2,a3,c,by rw[a4,TC,hc]⟩
theorem aqR{F2:Bool->Option ((Pt⊕Dg)×Int×Int)}{A B:Rd (Pt×Int)}{x:ByteArray}(hk:k<=ts.length)
   (h1:k+1<=ts.length->A (ts.drop (k+1))=some (r,l)->mC ts (k+1) (F2 true) r l) (h2:B (ts.drop k)=some (r,l)->mC ts k (F2 false) r l)
   (hS:Rr x A B (ts.drop k)=some (r,l)):mC ts k ((Ak ⟨ts,k,en⟩ x).bind F2) r l:=by
 rw[GL hk,TC];rcases L4 hk hS with ⟨h,h3,hS⟩ | ⟨h,hS⟩
 rw[h];exact adH (beC k) (h1 h3 hS);rw[h];exact h2 hS
end
def aKS(p:Pr)(As Bk:Int)(A6:Int×Int):Option ((Pt⊕Dg)×Int×Int):=((Ae (⟨p.An,Bk,p.Cb⟩:Pr) eU).bind λ(IJ,D4)=>aHR (λ(I4:Tk)=>(Ak (⟨p.An,D4,p.Cb⟩:Pr) Em).bind λy3=>cond y3 ((BL (⟨p.An,(Ba D4 1),p.Cb⟩:Pr)).bind λ(S9,JB)=>aHR (λ(GQ:(Int×Int))=>(B1 (⟨p.An,JB,p.Cb⟩:Pr)).bind λ(Qh,IK)=>aHR (λ(J1:Int)=>(Ay (⟨p.An,IK,p.Cb⟩:Pr) 0).bind λ(hU,OL)=>aHR (λ(Nw:(Int×Int))=>(Ae (⟨p.An,OL,p.Cb⟩:Pr) CK).bind λ(pH,Ta)=>aHR (λ(gY:Tk)=>(Ay (⟨p.An,Ta,p.Cb⟩:Pr) 1).bind λ(gZ,OC)=>aHR (λ(Jt:(Int×Int))=>(Cw As Jt.1).bind λy9=>(Oc As y9).bind λz10=>cond (CV 1000000 (CE z10 Jt.1)) (some ((aHU (⟨2,Jt.2⟩:Dg):(Pt⊕Dg)),OC,(CE z10 Jt.1))) (some ((bbL (⟨A6.1,(CE GQ.1 (-1)),(CE Nw.1 J1),Jt.1⟩:Pt):(Pt⊕Dg)),OC,(CE z10 Jt.1)))) (λ(PR:Dg)=>some ((aHU PR:(Pt⊕Dg)),OC,As)) gZ) (λ(U7:Dg)=>some ((aHU U7:(Pt⊕Dg)),Ta,As)) pH) (λ(SC:Dg)=>some ((aHU SC:(Pt⊕Dg)),OL,As)) hU) (λ(Km:Dg)=>some ((aHU Km:(Pt⊕Dg)),IK,As)) Qh) (λ(Ld:Dg)=>some ((aHU Ld:(Pt⊕Dg)),JB,As)) S9) ((BL (⟨p.An,D4,p.Cb⟩:Pr)).bind λ(aaN,XR)=>aHR (λ(Vm:(Int×Int))=>(B1 (⟨p.An,XR,p.Cb⟩:Pr)).bind λ(gT,Ud)=>aHR (λ(aeW:Int)=>(Ay (⟨p.An,Ud,p.Cb⟩:Pr) 0).bind λ(RG,L9)=>aHR (λ(Vn:(Int×Int))=>(Ae (⟨p.An,L9,p.Cb⟩:Pr) CK).bind λ(Z8,U6)=>aHR (λ(aEM:Tk)=>(Ay (⟨p.An,U6,p.Cb⟩:Pr) 1).bind λ(XT,PJ)=>aHR (λ(PI:(Int×Int))=>(Cw As PI.1).bind λy16=>(Oc As y16).bind λz17=>cond (CV 1000000 (CE z17 PI.1)) (some ((aHU (⟨2,PI.2⟩:Dg):(Pt⊕Dg)),PJ,(CE z17 PI.1))) (some ((bbL (⟨A6.1,(CE Vm.1 1),(CE Vn.1 aeW),PI.1⟩:Pt):(Pt⊕Dg)),PJ,(CE z17 PI.1)))) (λ(aeZ:Dg)=>some ((aHU aeZ:(Pt⊕Dg)),PJ,As)) XT) (λ(aeY:Dg)=>some ((aHU aeY:(Pt⊕Dg)),U6,As)) Z8) (λ(gV:Dg)=>some ((aHU gV:(Pt⊕Dg)),L9,As)) RG) (λ(aeX:Dg)=>some ((aHU aeX:(Pt⊕Dg)),Ud,As)) gT) (λ(gQ:Dg)=>some ((aHU gQ:(Pt⊕Dg)),XR,As)) aaN)) (λ(Kl:Dg)=>some ((aHU Kl:(Pt⊕Dg)),D4,As)) IJ)
section
variable {ts:List Tk}(DK:ts.length<=1000000){en:Int}
include DK
theorem sY(k0 As:Int)(v:Int×Int){k:Nat}(hk:k<=ts.length){r l}(hS:Ux en As v.1 (ts.drop k)=some (r,l)):mC ts k (aKS ⟨ts,k0,en⟩ As k v) r l:=by
 refine Jb (λh=>I6 DK _ hk h) (λ_ k h hk hS=>?_) (λ_ _=>⟨_,rfl⟩) hS;refine aqR hk (λhk1 hS=>?_) (λhS=>?_) hS;dsimp only[cond];rw[Eo DK hk];refine Jb (λh=>pA DK hk1 h) (λa k h hk hS=>?_) (λ_ _=>⟨_,rfl⟩) hS;refine Jb (λh=>arR DK hk h) (λs k h hk hS=>?_) (λ_ _=>⟨_,rfl⟩) hS;refine Jb (λh=>P6 DK _ hk h) (λm k h hk hS=>?_) (λ_ _=>⟨_,rfl⟩) hS;refine Jb (λh=>I6 DK _ hk h) (λ_ k h hk hS=>?_) (λ_ _=>⟨_,rfl⟩) hS;refine Jb (λh=>P6 DK _ hk h) (λd k h hk hS=>?_) (λ_ _=>⟨_,rfl⟩) hS;obtain⟨g,hg,hS⟩:=M8 hS;have hg:=alU hg;obtain⟨z,hz,hS⟩:=M8 hS;dsimp only[aHR];rw[hg,TC,hz,TC];revert hS;cases CV 1000000 (CE z d.1);exact λhS=>by obtain⟨rfl,rfl⟩:=Pp hS;exact⟨k,aHT k,hk,rfl,rfl⟩
 exact λhS=>by obtain⟨rfl,rfl⟩:=Q6 hS;exact⟨k,aHT k,hk,rfl,_,rfl⟩
 refine Jb (λh=>pA DK hk h) (λa k h hk hS=>?_) (λ_ _=>⟨_,rfl⟩) hS;refine Jb (λh=>arR DK hk h) (λs k h hk hS=>?_) (λ_ _=>⟨_,rfl⟩) hS;refine Jb (λh=>P6 DK _ hk h) (λm k h hk hS=>?_) (λ_ _=>⟨_,rfl⟩) hS;refine Jb (λh=>I6 DK _ hk h) (λ_ k h hk hS=>?_) (λ_ _=>⟨_,rfl⟩) hS;refine Jb (λh=>P6 DK _ hk h) (λd k h hk hS=>?_) (λ_ _=>⟨_,rfl⟩) hS;obtain⟨g,hg,hS⟩:=M8 hS;have hg:=alU hg;obtain⟨z,hz,hS⟩:=M8 hS;dsimp only[aHR];rw[hg,TC,hz,TC];revert hS;cases CV 1000000 (CE z d.1);exact λhS=>by obtain⟨rfl,rfl⟩:=Pp hS;exact⟨k,aHT k,hk,rfl,rfl⟩
 exact λhS=>by obtain⟨rfl,rfl⟩:=Q6 hS;exact⟨k,aHT k,hk,rfl,_,rfl⟩
theorem adA(before:List Pt)(hb:before.length<=100000000)(As:Int){k:Nat}(hk:k<=ts.length){r l}(hS:eO en before As (ts.drop k)=some (r,l)):mC ts k (Jm ⟨ts,k,en⟩ before As) r l:=by
 refine Jb (λh=>pA DK hk h) (λv k1 h hk hS=>?_) (λ_ _=>⟨_,rfl⟩) hS;dsimp only[aHR];revert hS;cases hE:Bg ((before.length:Nat):Int) 0 with
 |true=>
  cases Bg v.1 0;exact λhS=>by obtain⟨rfl,rfl⟩:=Q6 hS;exact⟨k1,aHT k1,hk,rfl,_,rfl⟩
  exact λhS=>sY DK k As v hk hS
 |false=>
  intro hS;have h0:before.length≠0:=λh=>cK hE (by rw[h];rfl);obtain⟨x,hx,hS⟩:=M8 hS;dsimp only[cond];rw[F5 (by omega)]
  have hg:FI before (A2 ((before.length:Nat):Int) 1)=some x:=by
   have:A2 ((before.length:Nat):Int) 1=((before.length - 1:Nat):Int):=by rw[Ii (by omega)];omega
   rw[this];unfold FI;rw[if_pos (by omega),aUW,hx]
  dsimp only;rw[hg,TC];revert hS;cases Lg v.1 x.fr;cases Lg 64 ((before.length:Nat):Int);exact λhS=>sY DK k As v hk hS;exact λhS=>by obtain⟨rfl,rfl⟩:=Q6 hS;exact⟨k1,aHT k1,hk,rfl,_,rfl⟩
  exact λhS=>by obtain⟨rfl,rfl⟩:=Q6 hS;exact⟨k1,aHT k1,hk,rfl,_,rfl⟩
theorem sZ(R:Ac)(k0:Int):∀(q:Nat)(ps:List Pt)(c:Int)(k:Nat) (r:(List Pt×Int)⊕Dg) (l:List Tk),ps.length<=100000000->k<=ts.length->Sd en q ps c (ts.drop k)=some (r,l) ->
 ∃k':Nat,k<=k'/\k'<=ts.length/\l=ts.drop k'/\∃n,CT (λx=>BG R ⟨ts,k0,en⟩ x.1 x.2.1 x.2.2) n (ps,c,(k:Int))=some (match r with | .inl x=>.inl (x.1,x.2,(k':Int)) | .inr d=>.inr (.inr d,(k':Int))):=by
 intro q
 induction q with
 |zero=>intro ps c k r l hp hk hS;cases hS
 |succ q ih=>
  intro ps c k r l hp hk hS;rcases OP hS with ⟨x,s',h3,h4⟩ | ⟨d,h3,rfl⟩
  obtain⟨k',a1,a2,rfl,a4⟩:=adA DK ps hp c hk h3;obtain⟨hl,h4⟩:=TI h4;rcases L4 a2 h4 with ⟨h5,h6,h7⟩ | ⟨h5,h7⟩
  obtain⟨k2,b1,b2,b3,n,b4⟩:=ih (ps++[x.1]) x.2 (k'+1) r l (by simp only[cZ,bbK];omega) h6 h7;refine⟨k2,by omega,b2,b3,n+1,?_⟩
  have hL:BG R ⟨ts,k0,en⟩ ps c (k:Int)=some (.nx (ps++[x.1],x.2,((k'+1:Nat):Int))):=by unfold BG;dsimp only at a4 ⊢;rw[a4,TC];dsimp only[aHR];rw[Ge hl,GL a2,h5,TC,Eo DK a2];rfl
  show(BG R ⟨ts,k0,en⟩ ps c (k:Int)).bind _=_;rw[hL];exact b4;obtain⟨rfl,rfl⟩:=Pp h7;refine⟨k',a1,a2,rfl,1,?_⟩
  have hL:BG R ⟨ts,k0,en⟩ ps c (k:Int)=some (.ex (ps++[x.1],x.2,(k':Int))):=by unfold BG;dsimp only at a4 ⊢;rw[a4,TC];dsimp only[aHR];rw[Ge hl,GL a2,h5,TC];rfl
  show(BG R ⟨ts,k0,en⟩ ps c (k:Int)).bind _=_;rw[hL];rfl;obtain⟨k',a1,a2,a3,c',a4⟩:=adA DK ps hp c hk h3;refine⟨k',a1,a2,a3,1,?_⟩
  have hL:BG R ⟨ts,k0,en⟩ ps c (k:Int)=some (.rt (.inr d,(k':Int))):=by unfold BG;dsimp only at a4 ⊢;rw[a4,TC];rfl
  show(BG R ⟨ts,k0,en⟩ ps c (k:Int)).bind _=_;rw[hL];rfl
omit DK in
theorem uT(R:Ac)(c:Int)(t:Tk)(kz:Int):∀(ps:List Pt)(acc:List Pc)(i:Nat) (r:(List Pc)⊕Dg) (s l:List Tk),Su c t.BH ps acc s=some (r,l) ->
 l=s/\Bu (λi y x=>IW R c kz t i y x) (λx=>x) ps i acc=some (match r with | .inl x=>.inl x | .inr d=>.inr (.inr d,kz)):=by
 intro ps
 induction ps with
 |nil=>
  intro acc i r s l hS;obtain⟨rfl,rfl⟩:=Pp hS;exact⟨rfl,rfl⟩
 |cons x ps ih=>
  intro acc i r s l hS;unfold Su at hS;obtain⟨z,hz,hS⟩:=M8 hS;rw[Bu];unfold IW;rw[hz,TC];revert hS;cases CV 1000000 (CE x.num z);cases CV (CE x.num z) (-1000000);intro hS;obtain⟨hl,hS⟩:=TI hS;obtain⟨rfl,h⟩:=ih _ (i+1) r s l hS;refine⟨rfl,?_⟩;dsimp only[cond];rw[Ge hl,TC];exact h;intro hS;obtain⟨rfl,rfl⟩:=Q6 hS;exact⟨rfl,rfl⟩;intro hS;obtain⟨rfl,rfl⟩:=Q6 hS;exact⟨rfl,rfl⟩
theorem aAJ{R:Ac}{g:Ek->Rd Nd}(hex:∀{k:Nat},k<=ts.length->∀{r l},g .ex (ts.drop k)=some (r,l)->Jz ts k (R.AB ⟨ts,k,en⟩) r l){k:Nat}(hk:k<=ts.length){r l}(hS:aaG en g (ts.drop k)=some (r,l)) :
   Jz ts k (Jn R ⟨ts,k,en⟩) r l:=by
 refine Bj (λh=>I6 DK _ hk h) (λt k1 h hk1 hS=>?_) (λ_ _=>rfl) hS;refine Bj (λh=>I6 DK _ hk1 h) (λ_ k2 h hk2 hS=>?_) (λ_ _=>rfl) hS;refine Bj (λh=>hex hk2 h) (λa k3 h hk3 hS=>?_) (λ_ _=>rfl) hS;refine Bj (λh=>I6 DK _ hk3 h) (λ_ k4 h hk4 hS=>?_) (λ_ _=>rfl) hS;dsimp only[aHR];rcases OP hS with ⟨x,s',h3,h4⟩ | ⟨d,h3,rfl⟩
 obtain⟨k',a1,a2,rfl,n,a4⟩:=sZ DK R (k:Int) _ [] 1 k4 _ _ (by simp) hk4 h3;rw[D0 a4,TC];refine L2 a1 ?_;dsimp only[GF];refine Bj (λh=>I6 DK _ a2 h) (λe k5 h hk5 hS=>?_) (λ_ _=>rfl) h4;obtain⟨hl,hS⟩:=TI hS;dsimp only[aHR];rw[bbQ,show B6 x.1.length=λy=>y from funext λy=>if_pos (by omega)];dsimp only;rcases OP hS with ⟨y,s2,h5,h6⟩ | ⟨d,h5,rfl⟩
 obtain⟨rfl,h⟩:=uT R x.2 e (k5:Int) x.1 [] 0 _ _ _ h5;rw[h];exact Ea hk5 rfl h6;obtain⟨rfl,h⟩:=uT R x.2 e (k5:Int) x.1 [] 0 _ _ _ h5;rw[h];exact⟨k5,aHT _,hk5,rfl,rfl⟩;obtain⟨k',a1,a2,a3,n,a4⟩:=sZ DK R (k:Int) _ [] 1 k4 _ _ (by simp) hk4 h3;rw[D0 a4,TC];exact⟨k',a1,a2,a3,rfl⟩
theorem yK{R:Ac}{read:Rd Nd}(k0:Int)(OW:∀{k:Nat},k<=ts.length->∀{r l},read (ts.drop k)=some (r,l)->Jz ts k (R.AB ⟨ts,k,en⟩) r l):∀(q:Nat)(ns:List Nd)(k:Nat) (r:(List Nd)⊕Dg) (l:List Tk),k<=ts.length->TN read q ns (ts.drop k)=some (r,l) ->
 ∃k':Nat,k<=k'/\k'<=ts.length/\l=ts.drop k'/\∃n,CT (λx=>Bc R ⟨ts,k0,en⟩ x.1 x.2) n (ns,(k:Int))=some (match r with | .inl x=>.inl (x,(k':Int)) | .inr d=>.inr (.inr d,(k':Int))):=by
 intro q
 induction q with
 |zero=>intro ns k r l hk hS;cases hS
 |succ q ih=>
  intro ns k r l hk hS;rcases L4 hk hS with ⟨h1,h2,hS⟩ | ⟨h1,hS⟩
  rcases OP hS with ⟨x,s',h3,h4⟩ | ⟨d,h3,rfl⟩
  obtain⟨k',a1,a2,rfl,a4⟩:=OW h2 h3;obtain⟨hl,h4⟩:=TI h4;obtain⟨k2,b1,b2,b3,n,b4⟩:=ih (ns++[x]) k' r l a2 h4;refine⟨k2,by omega,b2,b3,n+1,?_⟩
  have hL:Bc R ⟨ts,k0,en⟩ ns (k:Int)=some (.nx (ns++[x],(k':Int))):=by unfold Bc;dsimp only;rw[GL hk,h1,TC,Eo DK hk];dsimp only[cond];rw[a4,TC];dsimp only[aHR];rw[Ge hl]
  show(Bc R ⟨ts,k0,en⟩ ns (k:Int)).bind _=_;rw[hL];exact b4;obtain⟨k',a1,a2,a3,a4⟩:=OW h2 h3;refine⟨k',by omega,a2,a3,1,?_⟩
  have hL:Bc R ⟨ts,k0,en⟩ ns (k:Int)=some (.rt (.inr d,(k':Int))):=by unfold Bc;dsimp only;rw[GL hk,h1,TC,Eo DK hk];dsimp only[cond];rw[a4,TC];rfl
  show(Bc R ⟨ts,k0,en⟩ ns (k:Int)).bind _=_;rw[hL];rfl;obtain⟨rfl,rfl⟩:=Pp hS;refine⟨k,aHT k,hk,rfl,1,?_⟩
  have hL:Bc R ⟨ts,k0,en⟩ ns (k:Int)=some (.ex (ns,(k:Int))):=by unfold Bc;dsimp only;rw[GL hk,h1,TC];rfl
  show(Bc R ⟨ts,k0,en⟩ ns (k:Int)).bind _=_;rw[hL];rfl
theorem axD{R:Ac}{read:Rd Nd}(OW:∀{k:Nat},k<=ts.length->∀{r l},read (ts.drop k)=some (r,l)->Jz ts k (R.AB ⟨ts,k,en⟩) r l){k:Nat}(hk:k<=ts.length){r l}(hS:Xa read (ts.drop k)=some (r,l)):Jz ts k (G7 R ⟨ts,k,en⟩) r l:=by
 refine Bj (λh=>OW hk h) (λx k1 h hk1 hS=>?_) (λ_ _=>rfl) hS;dsimp only[aHR];rcases L4 hk1 hS with ⟨h1,h2,hS⟩ | ⟨h1,hS⟩
 rw[GL hk1,h1,TC,Eo DK hk1];refine L2 (beC k1) ?_;refine Bj (λh=>OW h2 h) (λy k2 h hk2 hS=>?_) (λ_ _=>rfl) hS;obtain⟨hl,hS⟩:=TI hS;dsimp only[aHR];rw[Ge hl];obtain⟨k',a1,a2,a3,n,a4⟩:=yK DK (k:Int) OW _ _ k2 _ _ hk2 hS;rw[D0 a4,TC];refine⟨k',a1,a2,a3,?_⟩;cases r<;>rfl
 rw[GL hk1,h1,TC];exact Ea hk1 rfl hS
theorem yL{read:Rd Nd}(k0:Int)(OW:∀{k:Nat},k<=ts.length->∀{r l},read (ts.drop k)=some (r,l)->Jz ts k (AD ⟨ts,k,en⟩) r l):∀(q:Nat)(ns:List Nd)(k:Nat) (r:(List Nd)⊕Dg) (l:List Tk),k<=ts.length->TN read q ns (ts.drop k)=some (r,l) ->
 ∃k':Nat,k<=k'/\k'<=ts.length/\l=ts.drop k'/\∃n,CT (λx=>AQ ⟨ts,k0,en⟩ x.1 x.2) n (ns,(k:Int))=some (match r with | .inl x=>.inl (x,(k':Int)) | .inr d=>.inr (.inr d,(k':Int))):=by
 intro q
 induction q with
 |zero=>intro ns k r l hk hS;cases hS
 |succ q ih=>
  intro ns k r l hk hS;rcases L4 hk hS with ⟨h1,h2,hS⟩ | ⟨h1,hS⟩
  rcases OP hS with ⟨x,s',h3,h4⟩ | ⟨d,h3,rfl⟩
  obtain⟨k',a1,a2,rfl,a4⟩:=OW h2 h3;obtain⟨hl,h4⟩:=TI h4;obtain⟨k2,b1,b2,b3,n,b4⟩:=ih (ns++[x]) k' r l a2 h4;refine⟨k2,by omega,b2,b3,n+1,?_⟩
  have hL:AQ ⟨ts,k0,en⟩ ns (k:Int)=some (.nx (ns++[x],(k':Int))):=by unfold AQ;dsimp only;rw[GL hk,h1,TC,Eo DK hk];dsimp only[cond];rw[a4,TC];dsimp only[aHR];rw[Ge hl]
  show(AQ ⟨ts,k0,en⟩ ns (k:Int)).bind _=_;rw[hL];exact b4;obtain⟨k',a1,a2,a3,a4⟩:=OW h2 h3;refine⟨k',by omega,a2,a3,1,?_⟩
  have hL:AQ ⟨ts,k0,en⟩ ns (k:Int)=some (.rt (.inr d,(k':Int))):=by unfold AQ;dsimp only;rw[GL hk,h1,TC,Eo DK hk];dsimp only[cond];rw[a4,TC];rfl
  show(AQ ⟨ts,k0,en⟩ ns (k:Int)).bind _=_;rw[hL];rfl;obtain⟨rfl,rfl⟩:=Pp hS;refine⟨k,aHT k,hk,rfl,1,?_⟩
  have hL:AQ ⟨ts,k0,en⟩ ns (k:Int)=some (.ex (ns,(k:Int))):=by unfold AQ;dsimp only;rw[GL hk,h1,TC];rfl
  show(AQ ⟨ts,k0,en⟩ ns (k:Int)).bind _=_;rw[hL];rfl
theorem axE{read:Rd Nd}(OW:∀{k:Nat},k<=ts.length->∀{r l},read (ts.drop k)=some (r,l)->Jz ts k (AD ⟨ts,k,en⟩) r l){k:Nat}(hk:k<=ts.length){r l}(hS:Xa read (ts.drop k)=some (r,l)):Jz ts k (EV ⟨ts,k,en⟩) r l:=by
 refine Bj (λh=>OW hk h) (λx k1 h hk1 hS=>?_) (λ_ _=>rfl) hS;dsimp only[aHR];rcases L4 hk1 hS with ⟨h1,h2,hS⟩ | ⟨h1,hS⟩
 rw[GL hk1,h1,TC,Eo DK hk1];refine L2 (beC k1) ?_;refine Bj (λh=>OW h2 h) (λy k2 h hk2 hS=>?_) (λ_ _=>rfl) hS;obtain⟨hl,hS⟩:=TI hS;dsimp only[aHR];rw[Ge hl];obtain⟨k',a1,a2,a3,n,a4⟩:=yL DK (k:Int) OW _ _ k2 _ _ hk2 hS;rw[D0 a4,TC];refine⟨k',a1,a2,a3,?_⟩;cases r<;>rfl
 rw[GL hk1,h1,TC];exact Ea hk1 rfl hS
end
section
variable {ts:List Tk}(DK:ts.length<=1000000){en:Int}{R:Ac}{g:Ek->Rd Nd}{li:Rd (List Nd)}(A:Agr R ts en g li)
include DK A
theorem aGT{k:Nat}(hk:k<=ts.length){r l}(hS:akN en g (ts.drop k)=some (r,l)):Jz ts k (Iu R ⟨ts,k,en⟩) r l:=by
 refine Bj (λh=>A.l4 hk h) (λN k h hk hS=>?_) (λ_ _=>rfl) hS;dsimp only[aHR]
 have fin:∀{y:(Nd⊕Dg)×Int} (k0:Int),Cl R ⟨ts,k0,en⟩ (k:Int) N=some (.rt y)->(IT (λ_:Unit=>Cl R ⟨ts,k0,en⟩ (k:Int) N) ()).bind (GF (λ(_:Unit)=>none) (λv=>some v))=some y:=by
  intro y k0 hL
  have:CT (λ_:Unit=>Cl R ⟨ts,k0,en⟩ (k:Int) N) 1 ()=some (.inr y):=by show(Cl R ⟨ts,k0,en⟩ (k:Int) N).bind _=_;rw[hL];rfl
  rw[D0 this];rfl
 rcases axU (en:=en) hk hS with ⟨x,h1,h2,hS⟩ | ⟨h2,hS⟩
 obtain⟨k',a1,a2,rfl,⟨n,b,hX,hb,rfl⟩ | ⟨d,hX,rfl⟩⟩:=OA DK h1 (λh=>A.l4 h1 h) hS;refine⟨k',by omega,a2,rfl,fin _ ?_⟩;unfold Cl;dsimp only;rw[h2];dsimp only[bbZ,cond];rw[Eo DK hk];cases hE:BE x.data.toList CK.data.toList <;>
 ·rw[hE] at hX;dsimp only[cond] at hX;dsimp only
  rw[hX];dsimp only[aHR];rw[hb]
 refine⟨k',by omega,a2,rfl,fin _ ?_⟩;unfold Cl;dsimp only;rw[h2];dsimp only[bbZ,cond];rw[Eo DK hk];cases hE:BE x.data.toList CK.data.toList <;>
 ·rw[hE] at hX;dsimp only[cond] at hX;dsimp only
  rw[hX];rfl
 obtain⟨rfl,rfl⟩:=Pp hS;refine⟨k,aHT k,hk,rfl,fin _ ?_⟩;unfold Cl;dsimp only;rw[h2];rfl
theorem aRN{k:Nat}(hk:k<=ts.length){r l}(hS:iS en g (ts.drop k)=some (r,l)):Jz ts k (FN R ⟨ts,k,en⟩) r l:=by
 unfold iS at hS;unfold FN;rw[GL hk,TC];cases hx:Mk UO (ts.drop k) with
 |true=>
  rw[hx] at hS;refine Bj (λh=>I6 DK _ hk h) (λt k h hk hS=>?_) (λ_ _=>rfl) hS;refine Bj (λh=>A.l2 hk h) (λN k h hk hS=>?_) (λ_ _=>rfl) hS;exact Ea hk rfl hS
 |false=>
  rw[hx] at hS;obtain⟨k',a1,a2,a3,a4⟩:=A.l3 hk hS;refine⟨k',a1,a2,a3,?_⟩;dsimp only[cond];rw[a4,TC];cases r with
  |inr d=>rfl
  |inl N=>
   dsimp only[aHR]
   have hL:CT (λx:Int×ByteArray×ByteArray×Int×Int×Int×Int×Int×List Pc×List Nd×Int×Int=>C9 R ⟨ts,k,en⟩ x.1 x.2.1 x.2.2.1 x.2.2.2.1 x.2.2.2.2.1 x.2.2.2.2.2.1 x.2.2.2.2.2.2.1 x.2.2.2.2.2.2.2.1 x.2.2.2.2.2.2.2.2.1 x.2.2.2.2.2.2.2.2.2.1 x.2.2.2.2.2.2.2.2.2.2.1 x.2.2.2.2.2.2.2.2.2.2.2) 1 (N.kind,N.name,N.unit,N.n,N.fr,N.to,N.known,N.Cg.den,N.Cg.ps,N.kids,N.BH,(k':Int))=some (.inr (.inl N,(k':Int))):=by
    have:C9 R ⟨ts,k,en⟩ N.kind N.name N.unit N.n N.fr N.to N.known N.Cg.den N.Cg.ps N.kids N.BH (k':Int)=some (.rt (.inl N,(k':Int))):=by unfold C9 GJ;dsimp only[bbZ,cond];rw[R6]
    show(C9 R ⟨ts,k,en⟩ N.kind N.name N.unit N.n N.fr N.to N.known N.Cg.den N.Cg.ps N.kids N.BH (k':Int)).bind _=_;rw[this];rfl
   rw[D0 hL];rfl
omit DK A in
theorem Sc{F:Option ((Nd⊕Dg)×Int)}{k:Nat}{r l}(h:Jz ts k F r l):Jz ts k (F.bind λ(DX,Bk)=>aHR (λ(A6:Nd)=>some ((bbL A6:(Nd⊕Dg)),Bk)) (λ(DZ:Dg)=>some ((aHU DZ:(Nd⊕Dg)),Bk)) DX) r l:=by obtain⟨k',a1,a2,a3,a4⟩:=h;refine⟨k',a1,a2,a3,?_⟩;rw[a4,TC];cases r<;>rfl
theorem aGQ{k:Nat}(hk:k<=ts.length){r l}(hS:qI en g li (ts.drop k)=some (r,l)):Jz ts k (JO R ⟨ts,k,en⟩) r l:=by
 refine YC hk (λt h1 h2 hS=>?_) (λ_=>rfl) hS;have hS:=iT h2 hS;dsimp only[aHR];rw[Eo DK hk];refine L2 (beC k) ?_;refine Bj (λh=>I6 DK _ h1 h) (λ_ k h hk hS=>?_) (λ_ _=>rfl) hS;refine Bj (λh=>A.ex hk h) (λa k h hk hS=>?_) (λ_ _=>rfl) hS;dsimp only[aHR];rw[Ge (by omega)];refine Bj (λh=>I6 DK _ hk h) (λ_ k h hk hS=>?_) (λ_ _=>rfl) hS;refine Bj (λh=>A.li hk h) (λns k h hk hS=>?_) (λ_ _=>rfl) hS;obtain⟨hl,hS⟩:=TI hS;dsimp only[aHR];rw[Ge (by simpa using hl)]
 cases hE:Bg ((ns.length:Nat):Int) 0 with
 |true=>
  have:ns=[]:=bbD (by have:=DS hE;omega);subst this;refine Bj (λh=>I6 DK _ hk h) (λ_ k h hk hS=>?_) (λ_ _=>rfl) hS;exact Ea hk rfl hS
 |false=>
  refine Bj (λh=>I6 DK _ hk h) (λ_ k h hk hS=>?_) (λ_ _=>rfl) hS;exact Ea hk rfl hS
theorem aMN(t:Tk){k:Nat}(hk:k<=ts.length){r l}(hS:gM en g t (ts.drop k)=some (r,l)):Jz ts k (Hi R ⟨ts,k,en⟩ t) r l:=by
 have one:∀{X:Nd} {r l},aV (GZ X) (ts.drop k)=some (r,l)->Jz ts k (some (.inl X,Ba (k:Int) 1)) r l:=by intro X r l h;obtain⟨h1,h2⟩:=apM hk h;rw[Eo DK hk];exact L2 (beC k) (Ea h1 rfl h2)
 revert hS;unfold gM Hi;cases BE t.text.data.toList SN.data.toList;rotate_left;exact one;cases BE t.text.data.toList NB.data.toList;rotate_left;exact one;cases BE t.text.data.toList bU.data.toList;rotate_left;intro hS;obtain⟨h1,hS⟩:=apM hk hS;dsimp only[cond];rw[Eo DK hk];refine L2 (beC k) ?_;refine Bj (λh=>P6 DK _ h1 h) (λa k h hk hS=>?_) (λ_ _=>rfl) hS;exact Ea hk rfl hS;cases BE t.text.data.toList Hw.data.toList;rotate_left;exact one;cases BE t.text.data.toList WK.data.toList;rotate_left;exact one;cases BE t.text.data.toList LN.data.toList;rotate_left;exact one;cases BE t.text.data.toList Qi.data.toList;rotate_left;exact one;cases BE t.text.data.toList Jl.data.toList;rotate_left;exact λhS=>Sc (A.ca hk hS);cases BE t.text.data.toList EP.data.toList;rotate_left;exact λhS=>Sc (A.ca hk hS);cases BE t.text.data.toList MD.data.toList;rotate_left;exact λhS=>Sc (A.ta hk hS);cases BE t.text.data.toList Mh.data.toList;rotate_left;intro hS;obtain⟨h1,hS⟩:=apM hk hS;dsimp only[cond];rw[Eo DK hk];refine L2 (beC k) ?_;refine Bj (λh=>A.ex h1 h) (λa k h hk hS=>?_) (λ_ _=>rfl) hS;refine Bj (λh=>I6 DK _ hk h) (λ_ k h hk hS=>?_) (λ_ _=>rfl) hS;exact Ea hk rfl hS;exact λhS=>Ea hk rfl hS
theorem aGF{k:Nat}(hk:k<=ts.length){r l}(hS:abG en g (ts.drop k)=some (r,l)):Jz ts k (JN R ⟨ts,k,en⟩) r l:=by refine YC hk (λt h1 h2 hS=>?_) (λ_=>rfl) hS;revert hS;dsimp only[aHR];cases Bg t.kind 3;rotate_left;intro hS;refine Bj (λh=>sR DK hk h) (λn k h hk hS=>?_) (λ_ _=>rfl) hS;refine adI hk (λhk1 hS=>?_) (λhS=>?_) hS;refine Ea hk1 (Eo DK hk) hS;exact Ea hk rfl hS;cases Bg t.kind 2;rotate_left;intro hS;have hS:=iT h2 hS;dsimp only[cond];rw[Eo DK hk];refine L2 (beC k) ?_;refine Bj (λh=>Sx DK Gh h1 h) (λa k h hk hS=>?_) (λ_ _=>rfl) hS;obtain⟨c,hc,hS⟩:=M8 hS;dsimp only[aHR];rw[hc];exact Ea hk rfl hS;intro hS;obtain⟨b,hb,hS⟩:=M8 hS;dsimp only[cond];rw[hb,TC];cases b;exact Sc (A.wd t hk hS);have hS:=iT h2 hS;dsimp only;rw[Eo DK hk];exact L2 (beC k) (Ea h1 rfl hS)
end
theorem auK{ts:List Tk}(DK:ts.length<=1000000)(en:Int):∀q:Nat,Agr (E8 q) ts en (gP en q).1 (gP en q).2:=by
 intro q
 induction q with
 |zero=>constructor<;>intros<;>rename_i h<;>cases h
 |succ q A=>
  constructor<;>simp only[E8,Mj]
  case ex=>intro k hk r l h;exact Sc (A.l0 hk h)
  case l0=>intro k hk r l h;exact aoI DK (λhk _ _ h=>A.l1 hk h) hk h
  case l1=>intro k hk r l h;exact aoJ DK (λhk _ _ h=>A.l2 hk h) hk h
  case l2=>intro k hk r l h;exact aRN DK A hk h
  case l3=>intro k hk r l h;exact aGT DK A hk h
  case l4=>intro k hk r l h;exact aoK DK (λhk _ _ h=>A.l5 hk h) hk h
  case l5=>intro k hk r l h;exact aoL DK (λhk _ _ h=>A.l6 hk h) hk h
  case l6=>intro k hk r l h;exact Sc (A.at_ hk h)
  case at_=>intro k hk r l h;exact aGF DK A hk h
  case wd=>intro t k hk r l h;exact aMN DK A t hk h
  case ca=>intro k hk r l h;exact aGQ DK A hk h
  case ta=>intro k hk r l h;exact aAJ DK (λhk _ _ h=>A.ex hk h) hk h
  case li=>intro k hk r l h;exact axD DK (λhk _ _ h=>A.ex hk h) hk h
section
variable (S:Int->Int->Prop)(en en':Int)(w:List Tk)
def TR(t t':Tk):Prop:=t.kind=t'.kind/\t.text=t'.text/\S t.BH t'.BH
inductive F2:List Tk->List Tk->Prop
 |nil:F2 [] []
 |cons {t t':Tk}{l l':List Tk}:TR S t t'->F2 l l'->F2 (t::l) (t'::l')
mutual
inductive NR:Nd->Nd->Prop
 |mk {k:Int}{nm u:ByteArray}{n f t kn:Int}{tb:Fn}{ks ks':List Nd}{a a':Int}:NRs ks ks'->S a a'->NR ⟨k,nm,u,n,f,t,kn,tb,ks,a⟩ ⟨k,nm,u,n,f,t,kn,tb,ks',a'⟩
inductive NRs:List Nd->List Nd->Prop
 |nil:NRs [] []
 |cons {n n':Nd}{l l':List Nd}:NR n n'->NRs l l'->NRs (n::l) (n'::l')
end
def DR(d d':Dg):Prop:=d.err=d'.err/\(S d.BH d'.BH\/d=⟨72,en⟩/\d'=⟨72,en'⟩)
inductive RR{α:Type}(Q:α->α->Prop):α⊕Dg->α⊕Dg->Prop
 |l {a a':α}:Q a a'->RR Q (.inl a) (.inl a')
 |r {d d':Dg}:DR S en en' d d'->RR Q (.inr d) (.inr d')
def Ends{α:Type}(b:Bool)(r:α⊕Dg)(s:List Tk):Prop:=s=[]/\(r=.inr ⟨72,en⟩\/b=false/\∃a,r=.inl a)
def RP{α:Type}(b:Bool)(Q:α->α->Prop)(m m':Rd α):Prop:=∀⦃l l1 s s':List Tk⦄ ⦃r r':α⊕Dg⦄,F2 S l l1->m l=some (r,s)->m' (l1++w)=some (r',s') ->
 (∃s1,s'=s1++w/\F2 S s s1/\RR S en en' Q r r')\/w≠[]/\Ends en b r s
def EO{α:Type}(b:Bool)(m:Rd α):Prop:=∀⦃r:α⊕Dg⦄ ⦃s:List Tk⦄,m []=some (r,s)->Ends en b r s
end
section
variable {S:Int->Int->Prop}{en en':Int}{w:List Tk}{α β:Type}{b:Bool}{Q:α->α->Prop}
inductive ER(S:Int->Int->Prop):Ek->Ek->Prop
 |ex:ER S .ex .ex
 |lv (i:Nat):ER S (.lv i) (.lv i)
 |at_:ER S .at_ .at_
 |wd {t t':Tk}:TR S t t'->ER S (.wd t) (.wd t')
 |ca:ER S .ca .ca
 |ta:ER S .ta .ta
structure Rel(S:Int->Int->Prop)(en en':Int)(w:List Tk)(g g':Ek->Rd Nd)(li li':Rd (List Nd)):Prop where
 rg:∀{e e'},ER S e e'->RP S en en' w false (NR S) (g e) (g' e')
 rli:RP S en en' w false (NRs S) li li'
 eg:∀e,(∀t,e≠.wd t)->EO en true (g e)
 eli:EO en true li
section
variable {g g':Ek->Rd Nd}{li li':Rd (List Nd)}(A:Rel S en en' w g g' li li')
include A
end
end
def aeV{x:Int}(h:-9223372036854775808<=x/\x<=9223372036854775807):beR.wrap x=x:=by unfold blX;simp[blY,blE];omega
def cG{a b:Int}(ha:0<=a)(hb:0 < b)(h:a<=9223372036854775807):Oc a b=some (a / b):=by unfold Oc L7;rw[if_neg (by omega),Int.tdiv_eq_ediv_of_nonneg ha,aeV];exact⟨by have:=Int.ediv_nonneg ha (bkF hb);omega,by have:=Int.ediv_le_self b ha;omega⟩
structure Gd(t:Tk):Prop where
 num:t.kind=3->∃z,Tn t.text=some (z,())/\0<=z/\z<=999999999999
 M3:t.kind=3\/t.kind=4->∃z,EF t=some z/\0<=z/\z<=999999999999
 date:t.kind=5->∃d e,Gt t.text=some (d,e)/\(e=0->0<=d/\d<=36524)
 len:t.text.data.toList.length<=6000
def Gl(l:List Tk):Prop:=∀t∈l,Gd t
section
variable {α β:Type}{n:Nat}{st:Bool}{P:α->Prop}{P2:β->Prop}
def UT(n:Nat)(st:Bool)(P:α->Prop)(m:Rd α):Prop:=∀⦃l:List Tk⦄,Gl l->l.length<=n->∃r s,m l=some (r,s)/\(∃k,s=l.drop k)/\∀a,r=.inl a->P a/\(st=true->s.length < l.length)
def Gl.drop{l:List Tk}(h:Gl l)(k:Nat):Gl (l.drop k):=λt ht=>h t (List.mem_of_mem_drop ht)
def cH{l:List Tk}{k j:Nat}:(l.drop k).drop j=l.drop (k+j):=by rw[bbO]
def Be{m:Rd α}{K:α->Rd β}(h1:UT n true P m)(h2:∀a,P a->1<=n->UT (n - 1) false P2 (K a)):UT n st P2 (Cu m K):=by
 intro l hg hl;obtain⟨r,s,e,⟨k,rfl⟩,hr⟩:=h1 hg hl;cases r with
 |inr d=>exact⟨.inr d,_,by unfold Cu;rw[e],⟨k,rfl⟩,λa h=>by cases h⟩
 |inl a=>
  obtain⟨pa,hs⟩:=hr a rfl;have hs:=hs rfl;obtain⟨r2,s2,e2,⟨j,rfl⟩,hr2⟩:=h2 a pa (by omega) (hg.drop k) (by omega);refine⟨r2,_,by unfold Cu;rw[e];exact e2,⟨k+j,cH⟩,λb hb=>⟨(hr2 b hb).1,λ_=>?_⟩⟩;simp only[aUZ] at hs ⊢;omega
def aAS{m:Rd α}{K:α->Rd β}(h1:UT n false P m)(h2:∀a,P a->UT n st P2 (K a)):UT n st P2 (Cu m K):=by
 intro l hg hl;obtain⟨r,s,e,⟨k,rfl⟩,hr⟩:=h1 hg hl;cases r with
 |inr d=>exact⟨.inr d,_,by unfold Cu;rw[e],⟨k,rfl⟩,λa h=>by cases h⟩
 |inl a=>
  obtain⟨pa,_⟩:=hr a rfl;obtain⟨r2,s2,e2,⟨j,rfl⟩,hr2⟩:=h2 a pa (hg.drop k) (by rw[aUZ];omega);refine⟨r2,_,by unfold Cu;rw[e];exact e2,⟨k+j,cH⟩,λb hb=>⟨(hr2 b hb).1,λh=>?_⟩⟩;have:=(hr2 b hb).2 h;simp only[aUZ] at this ⊢;omega
def UT.atV{m:Rd α}(h:UT n st P m):UT n false P m:=λl hg hl=>by
 obtain⟨r,s,e,h1,h2⟩:=h hg hl;exact⟨r,s,e,h1,λa ha=>⟨(h2 a ha).1,λh=>by cases h⟩⟩
def UT.imp{Q:α->Prop}{m:Rd α}(h:UT n st P m)(f:∀a,P a->Q a):UT n st Q m:=λl hg hl=>by
 obtain⟨r,s,e,h1,h2⟩:=h hg hl;exact⟨r,s,e,h1,λa ha=>⟨f a (h2 a ha).1,(h2 a ha).2⟩⟩
def UT.le{n':Nat}{m:Rd α}(h:UT n st P m)(hn:n'<=n):UT n' st P m:=λ_ hg hl=>h hg (by omega)
def DG{a:α}(h:P a):UT n false P (GZ a):=λl _ _=>⟨.inl a,l,rfl,⟨0,rfl⟩,λb hb=>by cases hb;exact⟨h,λh=>by cases h⟩⟩
def Jq{e p:Int}:UT n st P (Pn e p):=λl _ _=>⟨_,l,rfl,⟨0,rfl⟩,λb hb=>by cases hb⟩
def Py{X:Option β}{K:β->Rd α}(h:∃b,X=some b/\UT n st P (K b)):UT n st P (Oo X K):=by obtain⟨b,rfl,h⟩:=h;exact h
def gH{en:Int}{K:Tk->Rd α}(h:∀t,Gd t->∀s,Gl (t::s)->(t::s).length<=n->∃r s',K t (t::s)=some (r,s')/\(∃k,s'=(t::s).drop k)/\∀a,r=.inl a->P a/\(st=true->s'.length < (t::s).length)):UT n st P (iV en K):=by intro l hg hl;cases l with|nil=>exact⟨_,[],rfl,⟨0,rfl⟩,λa h=>by cases h⟩|cons t s=>exact h t (hg t (bbU ..)) s hg hl
def Ub{K:Rd α}(h:UT (n - 1) false P K){t:Tk}{s:List Tk}(hg:Gl (t::s))(hl:(t::s).length<=n) :
   ∃r s',aV K (t::s)=some (r,s')/\(∃k,s'=(t::s).drop k)/\∀a,r=.inl a->P a/\(st=true->s'.length < (t::s).length):=by
 have hl':s.length+1<=n:=hl;obtain⟨r,s2,e,⟨k,rfl⟩,hr⟩:=h (l:=s) (λt ht=>hg t (bbP _ ht)) (by omega);refine⟨r,_,e,⟨k+1,rfl⟩,λa ha=>⟨(hr a ha).1,λ_=>?_⟩⟩;rw[aUZ,amN];omega
def YO{x:ByteArray}{A B:Rd α}(h1:1<=n->UT (n - 1) false P A)(h2:UT n st P B):UT n st P (Rr x A B):=by
 intro l hg hl;unfold Rr;cases hx:Mk x l with
 |false=>exact h2 hg hl
 |true=>
  cases l with|nil=>cases hx|cons t s=>exact Ub (h1 (by simp only[amN] at hl;omega)) hg hl
def YN{c:Nat}{m:Rd α}(hc:c<=100000000)(h:UT n st P m):UT n st P (Rq c m):=by intro l hg hl;unfold Rq;rw[Ge hc];exact h hg hl
def FT{c:Bool}{A B:Rd α}(h1:c=true->UT n st P A)(h2:c=false->UT n st P B):UT n st P (cond c A B):=by cases c;exact h2 rfl;exact h1 rfl
end
section
variable {n:Nat}{en:Int}{st:Bool}
def OB{f:Tk->Option Bool}(hf:∀t,∃b,f t=some b):UT n st (λt=>Gd t/\f t=some true) (Qc en f):=by refine gH λt hg s kE hl=>?_;obtain⟨b,hb⟩:=hf t;unfold Oo;rw[hb];cases b with|true=>exact Ub (DG ⟨hg,hb⟩) kE hl|false=>exact Jq kE hl
def DQ{c:Bool}{α:Type}{x y:Option α}(h1:∃z,x=some z)(h2:∃z,y=some z):∃z,cond c x y=some z:=by cases c;exact h2;exact h1
def EY(x:ByteArray):UT n st (λ_=>True) (Ky en x):=(OB λt=>DQ ⟨_,rfl⟩ ⟨_,rfl⟩).imp λ_ _=>trivial
def Zd(t:Tk):∃b,CO t=some b:=by unfold CO;rw[aoC];exact DQ (DQ ⟨_,rfl⟩ ⟨_,rfl⟩) ⟨_,rfl⟩
def T7(x:ByteArray):∃b,Ed x=some b:=DQ ⟨_,rfl⟩ (DQ ⟨_,rfl⟩ (DQ ⟨_,rfl⟩ (DQ ⟨_,rfl⟩ ⟨_,rfl⟩)))
def bC:UT n st (λt=>Gd t/\CO t=some true) (acO en):=OB Zd
def aeF:UT n st (λt=>Gd t/\F0 t=some true) (atC en):=OB λt=>DQ ⟨_,rfl⟩ (DQ ⟨_,rfl⟩ (DQ ⟨_,rfl⟩ (DQ ⟨_,rfl⟩ ⟨_,rfl⟩)))
def aeE:UT n st (λt=>Gd t/\B0 t=some true) (adM en):=OB λt=>by
 unfold B0;obtain⟨b,hb⟩:=T7 t.text;rw[hb];exact DQ ⟨_,rfl⟩ ⟨_,rfl⟩
def R2{a b:Int}{x:Bool}(h:cond (Bg a b) (some true) (some false)=some x):x=Bg a b:=by revert h;cases Bg a b<;>exact λh=>(bbJ h).symm
def lP:UT n st (λp:Int×Int=>0<=p.1/\p.1<=999999999999) (Uu en):=by refine Be (OB λt=>DQ ⟨_,rfl⟩ ⟨_,rfl⟩) λt ht _=>?_;obtain⟨z,h1,h2⟩:=ht.1.num (DS (R2 ht.2).symm);exact Py ⟨_,h1,DG h2⟩
def Pz(least:Int):UT n st (λp:Int×Int=>least<=p.1/\p.1<=1000000) (QL en least) :=
 Be lP λp hp _=>FT (λ_=>Jq) λh1=>FT (λ_=>Jq) λh2=>DG ⟨Lh h1,Lh h2⟩
def bB(least:Int):UT n st (λd:Int=>least<=d/\0<=d/\d<=36524) (YZ en least):=by refine Be (OB λt=>DQ ⟨_,rfl⟩ ⟨_,rfl⟩) λt ht _=>?_;obtain⟨d,e,h1,h2⟩:=ht.1.date (DS (R2 ht.2).symm);exact Py ⟨_,h1,FT (λh=>FT (λ_=>Jq) λh3=>DG ⟨Lh h3,h2 (DS h)⟩) λ_=>Jq⟩
def aeB:UT n st (λ_=>True) (rR en) :=
 Be (EY _) λ_ _ _=>Be (Pz _) λ_ _ _=>Be (EY _) λ_ _ _=>Be (bB _) λ_ _ _=>
  YO (λ_=>Be (bB _) λ_ _ _=>Be (EY _) λ_ _ _=>Be (bB _) λ_ _ _=>DG trivial) (Be (EY _) λ_ _ _=>Be (bB _) λ_ _ _=>DG trivial)
def aeA:UT n st (λ_=>True) (Y0 en):=by refine gH λt hg s kE hl=>Ub ((Be bC λm _ _=>Be (EY _) λ_ _ _=>Be aeF λu _ _=>FT (λ_=>Be aeE λr _ _=>?_) λ_=>Be (EY _) λ_ _ _=>DG trivial)) kE hl;obtain⟨b,hb⟩:=T7 r.text;exact Py ⟨b,hb,Be (EY _) λ_ _ _=>DG trivial⟩
def Vj:UT n st (λ_=>True) (JK en):=Be (Pz _) λ_ _ _=>DG trivial
def gI:UT n st (λp:Int×Int=>0<=p.1/\p.1<=999999999999) (Wc en):=by
 refine Be (OB λt=>DQ ⟨_,rfl⟩ (DQ ⟨_,rfl⟩ ⟨_,rfl⟩)) λt ht _=>?_
 have hk:t.kind=3\/t.kind=4:=by
  have h:=ht.2;unfold Dq at h;cases h4:Bg t.kind 4 with
  |true=>exact .inr (DS h4)
  |false=>
   rw[h4] at h;exact .inl (DS (R2 h).symm)
 obtain⟨z,h1,h2⟩:=ht.1.M3 hk;exact Py ⟨_,h1,FT (λ_=>FT (λ_=>DG h2) λ_=>Jq) λ_=>DG h2⟩
def aAW:UT n st (λs:Int=>s=1\/s=-1) (uR en) :=
 Be (OB λt=>DQ ⟨_,rfl⟩ (DQ ⟨_,rfl⟩ ⟨_,rfl⟩)) λt _ _=>FT (λ_=>DG (.inr rfl)) λ_=>DG (.inl rfl)
def PcP(x:Pt×Int):Prop:=1<=x.2/\x.2<=1000000/\1<=x.1.den/\x.1.den<=1000000/\-1000000<=x.1.num/\x.1.num<=1000000
def lR{As:Int}(hc:1<=As/\As<=1000000)(from_ a:Int):UT n st PcP (Xl en As from_ a):=by
 refine Be aAW λs hs _=>Be (Pz _) λm hm _=>Be (EY _) λ_ _ _=>Be (Pz _) λd hd _=>?_;obtain⟨g,h1,h2,⟨c1,h3⟩,⟨c2,h4⟩⟩:=alV hc.1 (show(0:Int)<=d.1 by omega);refine Py ⟨g,h1,Py ⟨_,cG (by omega) (by omega) (by omega),FT (λ_=>Jq) λh5=>DG ?_⟩⟩;have hq:As / g=c1:=by rw[h3,biC _ (by omega)]
 have hc1:1<=c1:=by by_cases h:1<=c1;exact h;have:=bgF (show 0<=g by omega) (show c1<=0 by omega);omega
 have nI:c1<=1000000:=by have:=bdD h2 (show 0<=c1 by omega);omega
 have hw:CE (As / g) d.1=c1*d.1:=by rw[hq];have a1:=blF nI hd.2 (by omega) (by omega);have a2:=blG (show 0<=c1 by omega) (show 0<=d.1 by omega);exact FU (by omega)
 have h6:=Lh h5
 have a1:1<=c1*d.1:=by have:=bdD hc1 (show 0<=d.1 by omega);omega
 refine⟨by rw[hw];exact a1,h6,hd.1,hd.2,?_⟩;dsimp only;rcases hs with rfl | rfl
 rw[FU (by omega)];omega;rw[FU (by omega)];omega
def lQ{As:Int}(hc:1<=As/\As<=1000000)(from_:Int):UT n st PcP (Ux en As from_) :=
 Be (EY _) λ_ _ _=>YO (λ_=>Be gI λ_ _ _=>lR hc _ _) (Be gI λ_ _ _=>lR hc _ _)
def atG(before:List Pt){As:Int}(hc:1<=As/\As<=1000000):UT n st (λx=>PcP x/\before.length<=63) (eO en before As):=by refine Be gI λv hv _=>FT (λh=>FT (λ_=>(lQ hc _).imp λx hx=>⟨hx,?_⟩) λ_=>Jq) λh=>?_;have:=DS h;omega;have hb:before.length≠0:=λe=>cK h (by rw[e];rfl);refine Py ⟨before[before.length - 1]'(by omega),atS (by omega),FT (λ_=>Jq) λ_=>FT (λ_=>Jq) λh2=>(lQ hc _).imp λx hx=>⟨hx,?_⟩⟩;have:=aoF h2;omega
end
section
variable {α β:Type}{n:Nat}{en:Int}{st:Bool}{P:α->Prop}
abbrev TT{α:Type}:α->Prop:=λ_=>True
theorem vG{K:Nat->Rd α}(h:∀k,k<=n->UT k st P (K (k+1))):UT n st P (λs=>K (s.length+1) s):=λl hg hl=>h l.length hl hg (aHT _)
theorem aAV{read:Rd Nd}:∀(q n:Nat)(ns:List Nd),n < q->ns.length+n<=100000->UT n true TT read->UT n false (λr:List Nd=>r.length<=ns.length+n) (TN read q ns):=by
 intro q
 induction q with
 |zero=>intro n ns h;omega
 |succ q ih=>
  intro n ns hn hl hr;refine YO (λh1=>Be (hr.le (by omega)) λx _ h2=>YN (by omega) ?_) (DG (by omega));refine(ih (n - 1 - 1) (ns++[x]) (by omega) (by simp only[cZ,bbK];omega) (hr.le (by omega))).imp λr hr=>?_;simp only[cZ,bbK] at hr;omega
theorem aeD{read:Rd Nd}(hn:n<=10000)(hr:UT n true TT read):UT n st (λr:List Nd=>r.length<=n+1) (Xa read) :=
 Be hr λx _ h1=>vG (K:=λq=>TN read q [x]) λk hk=>(aAV (k+1) k [x] (by omega) (by simp only[bbK];omega) (hr.le (by omega))).imp λr h=>by simp only[bbK] at h;omega
theorem ayR:∃y,MA QK QK Ns 1=some y:=⟨_,rfl⟩
theorem ayQ:∃y,MA Mz QK Ns 1=some y:=⟨_,rfl⟩
theorem qF(op:ByteArray)(l r:Nd):∃x,Bh op l r=some x:=by
 unfold Bh;cases h1:BE op.data.toList QK.data.toList with
 |true=>
  obtain⟨y,hy⟩:=ayR;rw[PY h1,hy];exact⟨_,rfl⟩
 |false=>
  cases h2:BE op.data.toList Mz.data.toList with
  |true=>
   obtain⟨y,hy⟩:=ayQ;rw[PY h2,hy];exact⟨_,rfl⟩
  |false=>exact⟨_,rfl⟩
theorem aEH{yes:ByteArray->Rd α}{no:Rd α}(h1:∀x,1<=n->UT (n - 1) false P (yes x))(h2:UT n st P no):∀ops:List ByteArray,UT n st P (opR yes no ops):=by
 intro ops
 induction ops with|nil=>exact h2|cons x ops ih=>exact YO (h1 x) ih
theorem vI{sub:Rd Nd}(h:UT n true TT sub)(op:ByteArray)(l:Nd):UT n st TT (T6 en sub op l) :=
 Be (FT (λ_=>Vj) λ_=>h) λr _ _=>by
  obtain⟨x,hx⟩:=qF op l r;exact Py ⟨x,hx,DG trivial⟩
theorem atF{ops:List ByteArray}{sub:Rd Nd}:∀(q n:Nat)(l:Nd),n < q->UT n true TT sub->UT n false TT (Mq en ops sub q l):=by
 intro q
 induction q with
 |zero=>intro n l h;omega
 |succ q ih=>
  intro n l hn hs;exact aEH (λx h1=>Be (vI (hs.le (by omega)) x l) λb _ h2=>ih (n - 1 - 1) b (by omega) (hs.le (by omega))) (DG trivial) ops
def PsP(r:List Pt×Int):Prop:=r.1.length<=64/\1<=r.2/\r.2<=1000000/\∀x∈r.1,1<=x.den/\-1000000<=x.num/\x.num<=1000000
theorem aiI:∀(q n:Nat)(ps:List Pt)(c:Int),n < q->1<=c->c<=1000000->(∀x∈ps,1<=x.den/\-1000000<=x.num/\x.num<=1000000)->UT n st PsP (Sd en q ps c):=by
 intro q
 induction q generalizing st with
 |zero=>intro n ps c h;omega
 |succ q ih=>
  intro n ps c hn h1 h2 h3;refine Be (atG ps ⟨h1,h2⟩) λx hx h4=>?_;obtain⟨⟨a1,a2,a3,a4,a5,a6⟩,hb⟩:=hx
  have h5:∀y∈ps++[x.1],1<=y.den/\-1000000<=y.num/\y.num<=1000000:=by
   intro y hy;rcases bcE.1 hy with hy | hy
   exact h3 y hy;rw[bbV.1 hy];exact⟨a3,a5,a6⟩
  exact YN (by omega) (YO (λh6=>ih (n - 1 - 1) _ _ (by omega) a1 a2 h5) (DG ⟨by simp only[cZ,bbK];omega,a1,a2,h5⟩))
theorem aiJ{c:Int}(hc:1<=c/\c<=1000000)(p:Int):∀(ps:List Pt)(acc:List Pc),(∀x∈ps,1<=x.den)->acc.length+ps.length<=1000->UT n false TT (Su c p ps acc):=by
 intro ps
 induction ps with
 |nil=>intro acc _ _;exact DG trivial
 |cons x ps ih=>
  intro acc h1 h2;have:=h1 x (bbU ..);simp only[amN] at h2;exact Py ⟨_,cG (by omega) (by omega) (by omega),FT (λ_=>Jq) λ_=>FT (λ_=>Jq) λ_=>YN (by omega) (ih _ (λy hy=>h1 y (bbP _ hy)) (by simp only[cZ,bbK];omega))⟩
def UW(n:Nat)(m:Rd Nd):Prop:=∀t s,Gl (t::s)->(t::s).length<=n->∃r s',m (t::s)=some (r,s')/\(∃k,s'=(t::s).drop k)/\∀a,r=.inl a->True/\(true=true->s'.length < (t::s).length)
structure Tot(q:Nat)(g:Ek->Rd Nd)(li:Rd (List Nd)):Prop where
 ex:∀n,n<=10000->10*n+11<=q->UT n true TT (g .ex)
 lv:∀i n,i<=6->n<=10000->10*n+10 - i<=q->UT n true TT (g (.lv i))
 at_:∀n,n<=10000->10*n+3<=q->UT n true TT (g .at_)
 wd:∀t n,n<=10000->10*n+2<=q->UW n (g (.wd t))
 ca:∀n,n<=10000->10*n+1<=q->UT n true TT (g .ca)
 ta:∀n,n<=10000->10*n+1<=q->UT n true TT (g .ta)
 li:∀n,n<=10000->10*n+12<=q->UT n true (λr:List Nd=>r.length<=n+1) li
section
variable {q:Nat}{g:Ek->Rd Nd}{li:Rd (List Nd)}(A:Tot q g li)
include A
theorem XN{i:Nat}(hi:i<=5)(hn:n<=10000)(hq:10*n+9 - i<=q):UT n true TT (Qy en g i) :=
 Be (A.lv (i+1) n (by omega) hn (by omega)) λl _ h1=>vG (K:=λq=>Mq en (opsOf i) (g (.lv (i+1))) q l) λk hk=>atF (k+1) k l (by omega) (A.lv (i+1) k (by omega) (by omega) (by omega))
theorem aAU(hn:n<=10000)(hq:10*n+6<=q):UT n true TT (akN en g) :=
 Be (A.lv 4 n (by omega) hn (by omega)) λl _ h1=>aEH (λx h2=>vI (A.lv 4 _ (by omega) (by omega) (by omega)) x l) (DG trivial) _
theorem aMG(hn:n<=10000)(hq:10*n+7<=q):UT n true TT (iS en g):=by intro l hg hl;unfold iS;cases hx:Mk UO l with|false=>exact A.lv 3 n (by omega) hn (by omega) hg hl|true=>exact Be (EY _) (λt _ h1=>Be (A.lv 2 (n - 1) (by omega) (by omega) (by omega)) λk _ _=>DG trivial) hg hl
theorem aAT(hn:n<=10000)(hq:10*n<=q):UT n true TT (qI en g li):=by refine gH λt hg s kE hl=>Ub (Be (EY _) λ_ _ h1=>Be (A.ex _ (by omega) (by omega)) λa _ h2=>Be (EY _) λ_ _ h3=>Be (A.li _ (by omega) (by omega)) λl hl h4=>YN (by omega) (Be (EY _) λ_ _ _=>DG trivial)) kE hl
theorem atH(hn:n<=10000)(hq:10*n<=q):UT n true TT (aaG en g):=by refine Be (EY _) λt _ h1=>Be (EY _) λ_ _ h2=>Be (A.ex _ (by omega) (by omega)) λa _ h3=>Be (EY _) λ_ _ h4=>Be (P:=PsP) (vG (K:=λq=>Sd en q [] 1) λk hk=>aiI (k+1) k [] 1 (by omega) (by omega) (by omega) (λx hx=>by cases hx)) λr hr h5=>Be (EY _) λe _ h6=>?_;exact YN (by have:=hr.1;omega) (aAS (aiJ ⟨hr.2.1,hr.2.2.1⟩ _ _ _ (λx hx=>(hr.2.2.2 x hx).1) (by have:=hr.1;simp only[amO];omega)) λ_ _=>DG trivial)
theorem aAX(t:Tk)(hn:n<=10000)(hq:10*n+1<=q):UW n (gM en g t):=by
 intro t' s hg hl;have one:∀{x:Nd},∃r s',aV (GZ x) (t'::s)=some (r,s')/\(∃k,s'=(t'::s).drop k)/\∀a,r=.inl a->True/\(true=true->s'.length < (t'::s).length):=λ{x}=>Ub (DG trivial) hg hl;have h1:1<=n:=by simp only[amN] at hl;omega
 unfold gM;cases BE t.text.data.toList SN.data.toList;rotate_left;exact one;cases BE t.text.data.toList NB.data.toList;rotate_left;exact one;cases BE t.text.data.toList bU.data.toList;rotate_left;exact Ub (Be (Pz _) λ_ _ _=>DG trivial) hg hl;cases BE t.text.data.toList Hw.data.toList;rotate_left;exact one;cases BE t.text.data.toList WK.data.toList;rotate_left;exact one;cases BE t.text.data.toList LN.data.toList;rotate_left;exact one;cases BE t.text.data.toList Qi.data.toList;rotate_left;exact one;cases BE t.text.data.toList Jl.data.toList;rotate_left;exact A.ca n hn hq hg hl;cases BE t.text.data.toList EP.data.toList;rotate_left;exact A.ca n hn hq hg hl;cases BE t.text.data.toList MD.data.toList;rotate_left;exact A.ta n hn hq hg hl;cases BE t.text.data.toList Mh.data.toList;rotate_left;exact Ub (UT.atV (Be (st:=true) (A.ex (n - 1) (by omega) (by omega)) λ_ _ _=>Be (EY _) λ_ _ _=>DG trivial)) hg hl;exact Jq (st:=true) (P:=TT) hg hl
theorem aAR(hn:n<=10000)(hq:10*n+2<=q):UT n true TT (abG en g):=by refine gH λt ht s hg hl=>?_;cases Bg t.kind 3;rotate_left;exact Be (st:=true) (P2:=TT) lP (λ_ _ _=>YO (λ_=>DG trivial) (DG trivial)) hg hl;cases Bg t.kind 2;rotate_left;refine Ub (Be (OB λt=>DQ ⟨_,rfl⟩ ⟨_,rfl⟩) λa ha _=>?_) hg hl;obtain⟨z,h1,_⟩:=ha.1.M3 (.inr (DS (R2 ha.2).symm));exact Py ⟨z,h1,DG trivial⟩;obtain⟨b,hb⟩:=Zd t;unfold cond Oo;dsimp only;rw[hb];cases b;exact A.wd t n hn hq t s hg hl;exact Ub (DG trivial) hg hl
end
theorem aAM:∀q:Nat,Tot q (gP en q).1 (gP en q).2:=by
 intro q
 induction q with
 |zero=>constructor<;>intros<;>omega
 |succ q A=>
  constructor
  case ex=>intro n hn hq;exact A.lv 0 n (by omega) hn (by omega)
  case lv=>
   intro i n hi hn hq;show UT n true TT (XG en (gP en q).1 (gP en q).2 (.lv i));have:i=0\/i=1\/i=2\/i=3\/i=4\/i=5\/i=6:=by omega
   rcases this with rfl | rfl | rfl | rfl | rfl | rfl | rfl
   exact XN A (by omega) hn (by omega);exact XN A (by omega) hn (by omega);exact aMG A hn (by omega);exact aAU A hn (by omega);exact XN A (by omega) hn (by omega);exact XN A (by omega) hn (by omega);exact A.at_ n hn (by omega)
  case at_=>intro n hn hq;exact aAR A hn (by omega)
  case wd=>intro t n hn hq;exact aAX A t hn (by omega)
  case ca=>intro n hn hq;exact aAT A hn (by omega)
  case ta=>intro n hn hq;exact atH A hn (by omega)
  case li=>intro n hn hq;exact aeD hn (A.ex n hn (by omega))
end
section
variable {α β:Type}
def Rf(m m':Rd α):Prop:=∀l y,m l=some y->m' l=some y
def Rf.refl(m:Rd α):Rf m m:=λ_ _ h=>h
def Ku{m m':Rd α}{K K':α->Rd β}(h1:Rf m m')(h2:∀a,Rf (K a) (K' a)):Rf (Cu m K) (Cu m' K'):=by
 intro l y h;unfold Cu at h ⊢;cases hm:m l with
 |none=>rw[hm] at h;cases h
 |some p=>
  rw[hm] at h;rw[h1 l p hm];obtain⟨a | d,s⟩:=p;exact h2 a s y h;exact h
def aLB{x:Option α}{K K':α->Rd β}(h:∀a,Rf (K a) (K' a)):Rf (Oo x K) (Oo x K'):=by intro l y;unfold Oo;cases x with|none=>exact λh=>h|some a=>exact h a l y
def aDV{en:Int}{K K':Tk->Rd β}(h:∀t,Rf (K t) (K' t)):Rf (iV en K) (iV en K'):=by intro l y;cases l with|nil=>exact λh=>h|cons t s=>exact h t (t::s) y
def aqT{m m':Rd β}(h:Rf m m'):Rf (aV m) (aV m'):=by intro l y;cases l with|nil=>exact λh=>h|cons t s=>exact h s y
def I2{b:Bool}{m n m' n':Rd β}(h1:Rf m m')(h2:Rf n n'):Rf (cond b m n) (cond b m' n'):=by cases b;exact h2;exact h1
def aqV{x:ByteArray}{a b a' b':Rd β}(h1:Rf a a')(h2:Rf b b'):Rf (Rr x a b) (Rr x a' b'):=by intro l y;unfold Rr;cases Mk x l with|true=>exact aqT h1 l y|false=>exact h2 l y
def aLC{n:Nat}{m m':Rd β}(h:Rf m m'):Rf (Rq n m) (Rq n m'):=by intro l y;unfold Rq Of;split;exact h l y;exact λh=>h
def aqS{K K':Nat->Rd β}(h:∀n,Rf (K n) (K' n)):Rf (λs=>K (s.length+1) s) (λs=>K' (s.length+1) s):=λl y=>h _ l y
end
section
variable {en:Int}
def adK{m m':Rd Nd}(h:Rf m m'):∀(q:Nat)(l:List Nd),Rf (TN m q l) (TN m' q l)
 |0,_=>Rf.refl _
 |q+1,l=>by
  unfold TN;exact aqV (Ku h λn=>aLC (adK h q _)) (Rf.refl _)
def ayU{m m':Rd Nd}(h:Rf m m'):Rf (Xa m) (Xa m'):=Ku h λn=>aqS λk=>adK h k [n]
structure Rfg(g g':Ek->Rd Nd)(li li':Rd (List Nd)):Prop where
 g:∀e,Rf (g e) (g' e)
 li:Rf li li'
def aqU{α:Type}{yes aTO:ByteArray->Rd α}{no no':Rd α}(h1:∀x,Rf (yes x) (aTO x))(h2:Rf no no'):∀ops:List ByteArray,Rf (opR yes no ops) (opR aTO no' ops)
 |[]=>h2
 |x::xs=>aqV (h1 x) (aqU h1 h2 xs)
def uG{sub asC:Rd Nd}(h:Rf sub asC)(op:ByteArray)(l:Nd):Rf (T6 en sub op l) (T6 en asC op l):=Ku (I2 (Rf.refl _) h) λr=>Rf.refl _
def uF{ops:List ByteArray}{sub asC:Rd Nd}(h:Rf sub asC):∀(q:Nat)(l:Nd),Rf (Mq en ops sub q l) (Mq en ops asC q l)
 |0,_=>Rf.refl _
 |q+1,l=>by
  unfold Mq;exact aqU (λop=>Ku (uG h op l) λb=>uF h q b) (Rf.refl _) ops
def ayV{g g':Ek->Rd Nd}{li li':Rd (List Nd)}(A:Rfg g g' li li')(e:Ek):Rf (XG en g li e) (XG en g' li' e):=by
 have lv:∀i,Rf (Qy en g i) (Qy en g' i):=λi=>Ku (A.g (.lv (i+1))) λl=>aqS λk=>uF (A.g (.lv (i+1))) k l;cases e with
 |ex=>exact A.g (.lv 0)
 |lv i=>
  rcases(show i=0\/i=1\/i=2\/i=3\/i=4\/i=5\/i=6\/7<=i by omega) with rfl | rfl | rfl | rfl | rfl | rfl | rfl | h
  exact lv 0;exact lv 1;intro s y;show iS en g s=some y->iS en g' s=some y;unfold iS;cases Mk UO s with|true=>exact(Ku (Rf.refl (Ky en UO)) λt=>Ku (A.g (.lv 2)) λk=>Rf.refl (GZ (FK 15 bE bE 0 [k] t.BH))) s y|false=>exact A.g (.lv 3) s y
  exact Ku (A.g (.lv 4)) λl=>aqU (λop=>uG (A.g (.lv 4)) op l) (Rf.refl _) (opsOf 3);exact lv 4;exact lv 5;exact A.g .at_;obtain⟨m,rfl⟩:∃m,i=m+7:=⟨i - 7,by omega⟩;exact lv (m+7)
 |at_=>exact aDV λt=>I2 (Rf.refl _) (I2 (Rf.refl _) (aLB λb=>I2 (Rf.refl _) (A.g (.wd t))))
 |wd t=>
  exact I2 (Rf.refl _) (I2 (Rf.refl _) (I2 (Rf.refl _) (I2 (Rf.refl _) (I2 (Rf.refl _) (I2 (Rf.refl _) (I2 (Rf.refl _) (I2 (A.g .ca) (I2 (A.g .ca) (I2 (A.g .ta) (I2 (aqT (Ku (A.g .ex) λa=>Rf.refl _)) (Rf.refl _)))))))))))
 |ca=>exact aDV λt=>aqT (Ku (Rf.refl _) λ_=>Ku (A.g .ex) λa=>Ku (Rf.refl _) λ_=>Ku A.li λl=>Rf.refl _)
 |ta=>exact Ku (Rf.refl _) λt=>Ku (Rf.refl _) λ_=>Ku (A.g .ex) λa=>Rf.refl _
def zM:∀q:Nat,Rfg (gP en q).1 (gP en (q+1)).1 (gP en q).2 (gP en (q+1)).2
 |0=>⟨λ_ _ _ h=>(by cases h),λ_ _ h=>(by cases h)⟩
 |q+1=>⟨λe=>ayV (zM q) e,ayU ((zM q).g .ex)⟩
def avX{q q':Nat}{e:Ek}{l:List Tk}{y:(Nd⊕Dg)×List Tk}(h:q<=q')(hy:(gP en q).1 e l=some y):(gP en q').1 e l=some y:=by
 obtain⟨d,rfl⟩:∃d,q'=q+d:=⟨q' - q,by omega⟩;clear h
 induction d with|zero=>exact hy|succ d ih=>exact(zM (q+d)).g e l y ih
end
def S6(en:Int):Rd Nd:=λl=>(gP en (10*l.length+11)).1 .ex l
theorem aEG{n:Nat}{en:Int}(hn:n<=10000):UT n true TT (S6 en):=λl hg hl=>(aAM (10*l.length+11)).ex l.length (by omega) (aHT _) hg (aHT _)
theorem avQ{en:Int}{l s:List Tk}{r:Nd⊕Dg}(_:Gl l)(_:l.length<=10000)(h:S6 en l=some (r,s))(q:Nat)(hq:10*l.length+11<=q):(gP en q).1 .ex l=some (r,s):=avX hq h
section
variable {ts:List Tk}(DK:ts.length<=10000)(hg:Gl ts){en:Int}
include DK hg
theorem abO{k:Nat}(hk:k<=ts.length){r l}(hS:S6 en (ts.drop k)=some (r,l)):Jz ts k (FA ⟨ts,k,en⟩) r l:=by
 have hd:(ts.drop k).length<=10000:=by rw[aUZ];omega
 have key:∀q,10*(ts.drop k).length+11<=q->Jz ts k (Ni q ⟨ts,k,en⟩) r l:=λq hq=>(auK (by omega) en q).ex hk (avQ (hg.drop k) hd hS q hq);obtain⟨k',a1,a2,a3,a4⟩:=key _ (aHT _);refine⟨k',a1,a2,a3,NA (10*(ts.drop k).length+11) λq hq=>?_⟩;obtain⟨k2,b1,b2,b3,b4⟩:=key q hq
 have:k2=k':=by have h:=congrArg bfG (a3.symm.trans b3);simp only[aUZ] at h;omega
 rw[b4,this]
theorem qK(kind:Int){k:Nat}(hk:k<=ts.length){r l}(hS:LC en (S6 en) kind (ts.drop k)=some (r,l)):Jz ts k (C0 ⟨ts,k,en⟩ kind) r l:=by
 have h6:ts.length<=1000000:=by omega
 refine YC hk (λt h1 h2 hS=>?_) (λ_=>rfl) hS;have hS:=iT h2 hS;dsimp only[aHR];rw[Eo h6 hk];refine L2 (beC k) ?_;revert hS;cases Bg kind 7;intro hS;refine Bj (λh=>abO DK hg h1 h) (λa k h hk hS=>?_) (λ_ _=>rfl) hS;refine Bj (λh=>I6 h6 _ hk h) (λ_ k h hk hS=>?_) (λ_ _=>rfl) hS;exact Ea hk rfl hS;intro hS;refine Bj (λh=>axE h6 (λhk _ _ h=>Xb h6 hk h) h1 h) (λa k h hk hS=>?_) (λ_ _=>rfl) hS;refine Bj (λh=>I6 h6 _ hk h) (λ_ k h hk hS=>?_) (λ_ _=>rfl) hS;exact Ea hk rfl hS
theorem ayB(t1 t4:Tk)(n2:Int×Int)(k0:Int):∀(q:Nat)(ns:List Nd)(un am:Bool)(k:Nat)(r:Nd⊕Dg)(l:List Tk),k<=ts.length->K6 en (S6 en) (λl=>FK 4 t4.text bE n2.1 l t1.BH) q ns un am (ts.drop k)=some (r,l) ->
 ∃k':Nat,k<=k'/\k'<=ts.length/\l=ts.drop k'/\∃n,CT (λx:List Nd×Int×Bool×Bool=>Bm ⟨ts,k0,en⟩ t1 n2 t4 x.1 x.2.1 x.2.2.1 x.2.2.2) n (ns,(k:Int),un,am)=some (.inr (r,(k':Int))):=by
 have h6:ts.length<=1000000:=by omega
 intro q
 induction q with
 |zero=>intro ns un am k r l hk hS;cases hS
 |succ q ih=>
  intro ns un am k r l hk hS
  have stop:∀{y:(Nd⊕Dg)×Int},Bm ⟨ts,k0,en⟩ t1 n2 t4 ns (k:Int) un am=some (.rt y)->CT (λx:List Nd×Int×Bool×Bool=>Bm ⟨ts,k0,en⟩ t1 n2 t4 x.1 x.2.1 x.2.2.1 x.2.2.2) 1 (ns,(k:Int),un,am)=some (.inr y):=by intro y h;show(Bm ⟨ts,k0,en⟩ t1 n2 t4 ns (k:Int) un am).bind _=_;rw[h];rfl
  have go:∀{y:List Nd×Int×Bool×Bool}{n:Nat} {z},Bm ⟨ts,k0,en⟩ t1 n2 t4 ns (k:Int) un am=some (.nx y)->CT (λx:List Nd×Int×Bool×Bool=>Bm ⟨ts,k0,en⟩ t1 n2 t4 x.1 x.2.1 x.2.2.1 x.2.2.2) n y=z->CT (λx:List Nd×Int×Bool×Bool=>Bm ⟨ts,k0,en⟩ t1 n2 t4 x.1 x.2.1 x.2.2.1 x.2.2.2) (n+1) (ns,(k:Int),un,am)=z:=by intro y n z h h2;show(Bm ⟨ts,k0,en⟩ t1 n2 t4 ns (k:Int) un am).bind _=_;rw[h];exact h2
  unfold K6 iV at hS;unfold Bm at stop go;rcases JF ts hk with ⟨h1,h2⟩ | ⟨t,h1,h2,h3⟩
  ·rw[h2] at hS
   dsimp only at hS;simp only[aUQ,bbI] at hS;obtain⟨rfl,rfl⟩:=hS;refine⟨k,aHT k,hk,h2.symm,1,stop ?_⟩
   have:At ⟨ts,k,en⟩=some (.inr ⟨72,en⟩):=by unfold At;rw[eA (by dsimp only;omega)];rfl
   dsimp only;rw[this];rfl
  ·rw[h3] at hS
   dsimp only at hS;rw[<- h3] at hS
   have hpk:At ⟨ts,k,en⟩=some (.inl t):=by unfold At;rw[W9 (by dsimp only;omega)];dsimp only[cond];unfold FI;rw[if_pos (by omega),aUW,h2];rfl
   dsimp only at stop go;rw[hpk] at stop go;dsimp only[bbZ,aHR] at stop go
   have one:∀(kind:Int)(un' wQ:Bool),(Cu (LC en (S6 en) kind) λc=>Rq (ns.length+1) (K6 en (S6 en) (λl=>FK 4 t4.text bE n2.1 l t1.BH) q (ns++[c]) un' wQ)) (ts.drop k)=some (r,l) ->
    (∃(k1:Nat)(c:Nd),k<=k1/\k1<=ts.length/\C0 ⟨ts,k,en⟩ kind=some (.inl c,(k1:Int))/\ns.length+1<=100000000/\∃k':Nat,k1<=k'/\k'<=ts.length/\l=ts.drop k'/\∃n,CT (λx:List Nd×Int×Bool×Bool=>Bm ⟨ts,k0,en⟩ t1 n2 t4 x.1 x.2.1 x.2.2.1 x.2.2.2) n (ns++[c],(k1:Int),un',wQ)=some (.inr (r,(k':Int)))) \/
    (∃(k':Nat)(d:Dg),k<=k'/\k'<=ts.length/\l=ts.drop k'/\r=.inr d/\C0 ⟨ts,k,en⟩ kind=some (.inr d,(k':Int))):=by
    intro kind un' wQ h;rcases OP h with ⟨c,s',h4,h5⟩ | ⟨d,h4,rfl⟩
    obtain⟨k1,a1,a2,rfl,a4⟩:=qK DK hg kind hk h4;obtain⟨hl,h5⟩:=TI h5;exact .inl ⟨k1,c,a1,a2,a4,hl,ih _ _ _ _ _ _ a2 h5⟩;obtain⟨k1,a1,a2,a3,a4⟩:=qK DK hg kind hk h4;exact .inr ⟨k1,d,a1,a2,a3,rfl,a4⟩
   cases hw:BE t.text.data.toList Vl.data.toList with
   |true=>
    rw[hw] at hS stop go;dsimp only[cond] at hS stop go;rcases one 6 un am hS with ⟨k1,c,a1,a2,a3,a4,k',b1,b2,b3,n,b4⟩ | ⟨k',d,a1,a2,a3,rfl,a4⟩
    rw[a3] at go;dsimp only[bbZ,aHR] at go;rw[Ge a4] at go;exact⟨k',by omega,b2,b3,n+1,go rfl b4⟩
    ·rw[a4] at stop
     exact⟨k',a1,a2,a3,1,stop rfl⟩
   |false=>
    rw[hw] at hS stop go;dsimp only[cond] at hS stop go;cases hu:BE t.text.data.toList MW.data.toList with
    |true=>
     rw[hu] at hS stop go;dsimp only at hS stop go;cases un with
     |true=>
      dsimp only at hS stop go;obtain⟨rfl,rfl⟩:=Q6 hS;exact⟨k,aHT k,hk,rfl,1,stop rfl⟩
     |false=>
      dsimp only at hS stop go;rcases one 7 true am hS with ⟨k1,c,a1,a2,a3,a4,k',b1,b2,b3,n,b4⟩ | ⟨k',d,a1,a2,a3,rfl,a4⟩
      rw[a3] at go;dsimp only[bbZ,aHR] at go;rw[Ge a4] at go;exact⟨k',by omega,b2,b3,n+1,go rfl b4⟩
      ·rw[a4] at stop
       exact⟨k',a1,a2,a3,1,stop rfl⟩
    |false=>
     rw[hu] at hS stop go;dsimp only at hS stop go;cases ha:BE t.text.data.toList Lz.data.toList with
     |true=>
      rw[ha] at hS stop go;dsimp only at hS stop go;cases am with
      |true=>
       dsimp only at hS stop go;obtain⟨rfl,rfl⟩:=Q6 hS;exact⟨k,aHT k,hk,rfl,1,stop rfl⟩
      |false=>
       dsimp only at hS stop go;rcases one 8 un true hS with ⟨k1,c,a1,a2,a3,a4,k',b1,b2,b3,n,b4⟩ | ⟨k',d,a1,a2,a3,rfl,a4⟩
       rw[a3] at go;dsimp only[bbZ,aHR] at go;rw[Ge a4] at go;exact⟨k',by omega,b2,b3,n+1,go rfl b4⟩
       ·rw[a4] at stop
        exact⟨k',a1,a2,a3,1,stop rfl⟩
     |false=>
      rw[ha] at hS stop go;dsimp only at hS stop go;cases hc:BE t.text.data.toList zE.data.toList with
      |true=>
       rw[hc] at hS stop;dsimp only at hS stop;cases am with
       |true=>
        have hS:=iT h3 hS;obtain⟨rfl,rfl⟩:=Pp hS;refine⟨k+1,by omega,h1,rfl,1,stop ?_⟩;dsimp only;rw[Eo h6 hk];rfl
       |false=>
        obtain⟨rfl,rfl⟩:=Q6 hS;exact⟨k,aHT k,hk,rfl,1,stop rfl⟩
      |false=>
       rw[hc] at hS stop;dsimp only at hS stop;obtain⟨rfl,rfl⟩:=Q6 hS;exact⟨k,aHT k,hk,rfl,1,stop rfl⟩
theorem afJ{k:Nat}(hk:k<=ts.length){r l}(hS:Tm en (S6 en) (ts.drop k)=some (r,l)):Jz ts k (Iq ⟨ts,k,en⟩) r l:=by
 have h6:ts.length<=1000000:=by omega
 refine Bj (λh=>I6 h6 _ hk h) (λt k1 h hk hS=>?_) (λ_ _=>rfl) hS;refine Bj (λh=>P6 h6 _ hk h) (λn k1 h hk hS=>?_) (λ_ _=>rfl) hS;refine Bj (λh=>I6 h6 _ hk h) (λ_ k1 h hk hS=>?_) (λ_ _=>rfl) hS;refine Bj (λh=>apA h6 hk h) (λm k1 h hk hS=>?_) (λ_ _=>rfl) hS;refine Bj (λh=>aHZ h6 hk h) (λhd k1 h hk hS=>?_) (λ_ _=>rfl) hS;dsimp only[aHR];rw[Ge (by omega)];refine Bj (λh=>I6 h6 _ hk h) (λ_ k1 h hk hS=>?_) (λ_ _=>rfl) hS;obtain⟨k',a1,a2,a3,j,a4⟩:=ayB DK hg t m n (k:Int) _ [hd] false false k1 r l hk hS;refine⟨k',a1,a2,a3,?_⟩;dsimp only[aHR];rw[bcY,D0 a4];rfl
theorem anX{k:Nat}(hk:k<=ts.length){r l}(hS:W6 en (S6 en) (ts.drop k)=some (r,l)):Jz ts k (JQ ⟨ts,k,en⟩) r l:=by
 have h6:ts.length<=1000000:=by omega
 refine YC hk (λt h1 h2 hS=>?_) (λ_=>rfl) hS;revert hS;dsimp only[aHR];cases BE t.text.data.toList PZ.data.toList;rotate_left;exact λhS=>Sc (akW h6 hk hS);cases BE t.text.data.toList LJ.data.toList;rotate_left;exact λhS=>Sc (akW h6 hk hS);cases BE t.text.data.toList E4.data.toList;rotate_left;exact λhS=>Sc (afJ DK hg hk hS);exact λhS=>Ea hk rfl hS
end
section
variable {n:Nat}{en:Int}{st:Bool}
def aiH(kind:Int)(hn:n<=10000):UT n st TT (LC en (S6 en) kind) :=
 gH λt _ s kE hl=>Ub (FT (λ_=>Be (aeD (by omega) Vj) λ_ _ _=>Be (EY _) λ_ _ _=>DG trivial) λ_=>Be (aEG (by omega)) λ_ _ _=>Be (EY _) λ_ _ _=>DG trivial) kE hl
def vH{mk:List Nd->Nd}:∀(q n:Nat)(ns:List Nd)(un am:Bool),n<=10000->n < q->ns.length+n<=100000->UT n st TT (K6 en (S6 en) mk q ns un am):=by
 intro q
 induction q generalizing st with
 |zero=>intro n ns un am _ h;omega
 |succ q ih=>
  intro n ns un am hn h1 h2
  have go:∀{st:Bool}(kind:Int)(un' wQ:Bool),UT n st TT (Cu (LC en (S6 en) kind) λc=>Rq (ns.length+1) (K6 en (S6 en) mk q (ns++[c]) un' wQ)):=λkind un' wQ=>
   Be (aiH kind hn) λc _ h3=>YN (by omega) (ih (n - 1) _ _ _ (by omega) (by omega) (by simp only[cZ,bbK];omega))
  refine gH λt _ s kE hl=>?_;cases BE t.text.data.toList Vl.data.toList;rotate_left;exact go (st:=st) _ _ _ kE hl;cases BE t.text.data.toList MW.data.toList;rotate_left;exact FT (st:=st) (P:=TT) (λ_=>Jq) (λ_=>go _ _ _) kE hl;cases BE t.text.data.toList Lz.data.toList;rotate_left;exact FT (st:=st) (P:=TT) (λ_=>Jq) (λ_=>go _ _ _) kE hl;cases BE t.text.data.toList zE.data.toList;exact Jq (st:=st) (P:=TT) kE hl;cases am;exact Jq (st:=st) (P:=TT) kE hl;exact Ub (DG trivial) kE hl
def aaM(hn:n<=10000):UT n st TT (Tm en (S6 en)) :=
 Be (EY _) λt _ h1=>Be (Pz _) λm _ h2=>Be (EY _) λ_ _ h3=>Be bC λu _ h4=>Be aeB λh _ h5=>Be (EY _) λ_ _ h6=>
  vG (K:=λq=>K6 en (S6 en) (λl=>FK 4 u.text bE m.1 l t.BH) q [h] false false) λk hk=>vH (k+1) k [h] false false (by omega) (by omega) (by simp only[bbK];omega)
def aeC(hn:n<=10000):UT n st TT (W6 en (S6 en)):=by refine gH λt _ s kE hl=>?_;cases BE t.text.data.toList PZ.data.toList;rotate_left;exact aeA (st:=st) kE hl;cases BE t.text.data.toList LJ.data.toList;rotate_left;exact aeA (st:=st) kE hl;cases BE t.text.data.toList E4.data.toList;rotate_left;exact aaM (st:=st) hn kE hl;exact Jq (st:=st) (P:=TT) kE hl
end
def VH(t:Tk):Bool:=BE t.text.data.toList PZ.data.toList||(BE t.text.data.toList LJ.data.toList||BE t.text.data.toList E4.data.toList)
def SL:List Tk->List Tk
 |[]=>[]
 |t::s=>if VH t then t::s else SL s
def Rx:∀l:List Tk,∃k,SL l=l.drop k
 |[]=>⟨0,rfl⟩
 |t::s=>by
  unfold SL;split;exact⟨0,rfl⟩;obtain⟨k,hk⟩:=Rx s;exact⟨k+1,by rw[hk];rfl⟩
def Q9{en:Int}{t:Tk}{l s:List Tk}{r:Nd⊕Dg}(hg:Gl (t::l))(hl:(t::l).length<=10000)(h:W6 en (S6 en) (t::l)=some (r,s)):(∃k,s=(t::l).drop k)/\(SL s).length<=l.length/\∀n,r=.inl n->s.length<=l.length:=by
 obtain⟨r',s',h2,h3,h4⟩:=aeC (st:=true) (en:=en) (n:=(t::l).length) hl hg (aHT _);rw[h] at h2;simp only[aUQ,bbI] at h2;obtain⟨rfl,rfl⟩:=h2;refine⟨h3,?_,λn hn=>Nat.le_of_lt_succ ((h4 n hn).2 rfl)⟩
 have small:∀{k:Nat},(SL (l.drop k)).length<=l.length:=λ{k}=>by
  obtain⟨j,hj⟩:=Rx (l.drop k);rw[hj,aUZ,aUZ];omega
 have sk:∀{x:List Tk},(∃k,x=l.drop k)->(SL x).length<=l.length:=by rintro x ⟨k,rfl⟩;exact small
 have hg':Gl l:=λt ht=>hg t (bbP _ ht);have hl':l.length<=10000:=by simp only[amN] at hl;omega
 cases hi:VH t with
 |false=>
  have RM:=hi;unfold VH at hi;simp only[Bool.or_eq_false_iff] at hi
  have:W6 en (S6 en) (t::l)=some (.inr ⟨71,t.BH⟩,t::l):=by unfold W6 iV;dsimp only;rw[hi.1,hi.2.1,hi.2.2];rfl
  rw[this] at h;simp only[aUQ,bbI] at h;rw[<- h.2];unfold SL;rw[RM];obtain⟨k,hk⟩:=Rx l;simp only[bbC,if_false];rw[hk,aUZ];omega
 |true=>
  unfold W6 iV at h;dsimp only at h
  have decl:Y0 en (t::l)=some (r,s)->(SL s).length<=l.length:=by
   intro h;unfold Y0 iV aV at h;dsimp only at h;refine sk ?_
   obtain⟨r2,s2,e2,h5,_⟩:=(show UT l.length false TT _ from Be bC λm _ _=>Be (EY eU) λ_ _ _=>Be aeF λu _ _=>FT (c:=BE t.text.data.toList LJ.data.toList)
     (A:=Cu (adM en) λr=>Oo (Ed r.text) λn=>Cu (Ky en VW) λ_=>GZ (FK 3 m.text u.text n [] t.BH)) (B:=Cu (Ky en VW) λ_=>GZ (FK 2 m.text u.text 0 [] t.BH))
     (λ_=>Be aeE λr _ _=>by obtain⟨b,hb⟩:=T7 r.text;exact Py ⟨b,hb,Be (EY _) λ_ _ _=>DG trivial⟩) λ_=>Be (EY _) λ_ _ _=>DG trivial) hg' (aHT _)
   rw[h] at e2;simp only[aUQ,bbI] at e2;rw[e2.2];exact h5
  revert h;cases hf:BE t.text.data.toList PZ.data.toList;rotate_left;exact decl;cases hli:BE t.text.data.toList LJ.data.toList;rotate_left;exact decl;cases ha:BE t.text.data.toList E4.data.toList;unfold VH at hi;rw[hf,hli,ha] at hi;cases hi;intro h;refine sk ?_;have h:Tm en (S6 en) (t::l)=some (r,s):=h;unfold Tm at h
  have he:Ky en E4 (t::l)=some (.inl t,l):=by unfold Ky Qc iV Oo D5;dsimp only;rw[ha];rfl
  rcases OP h with ⟨a,s',h3,h4⟩ | ⟨d,h3,_⟩
  rw[he] at h3;simp only[aUQ,bbI,Sum.inl.injEq] at h3;obtain⟨rfl,rfl⟩:=h3
  obtain⟨r2,s2,e2,h5,_⟩:=(show UT l.length false TT _ from Be (Pz (en:=en) 1) λm _ h2=>Be (EY (en:=en) iI) λ_ _ h3=>Be (bC (en:=en)) λu _ h4=>Be (aeB (en:=en)) λh _ h5=>Be (EY (en:=en) ahD) λ_ _ h6=>
   vG (K:=λq=>K6 en (S6 en) (λl=>FK 4 u.text bE m.1 l t.BH) q [h] false false) λk hk=>vH (k+1) k [h] false false (by omega) (by omega) (by simp only[bbK];omega)) hg' (aHT _)
  have h6:=h4.symm.trans e2;simp only[aUQ,bbI] at h6;rw[h6.2];exact h5;rw[he] at h3;cases h3
def XJ(en:Int):Nat->List Tk->List Nd->List Dg->Option (List Nd×List Dg)
 |0,_,_,_=>none
 |_+1,[],ks,ds=>some (ks,ds)
 |q+1,t::l,ks,ds=>cond (CV ((ds.length:Nat):Int) 20) (match W6 en (S6 en) (t::l) with|none=>none|some (.inl n,s)=>XJ en q s (ks++[n]) ds|some (.inr d,s)=>XJ en q (SL s) ks (ds++[d])) (some (ks,ds))
theorem asU{en:Int}:∀(q:Nat)(l:List Tk)(ks:List Nd)(ds:List Dg),Gl l->l.length<=10000->l.length < q->∃r,XJ en q l ks ds=some r:=by
 intro q
 induction q with
 |zero=>intro l ks ds _ _ h;omega
 |succ q ih=>
  intro l ks ds hg hl h;cases l with
  |nil=>exact⟨_,rfl⟩
  |cons t l=>
   unfold XJ;cases CV ((ds.length:Nat):Int) 20 with
   |false=>exact⟨_,rfl⟩
   |true=>
    obtain⟨r,s,h2,_⟩:=aeC (st:=true) (en:=en) (n:=(t::l).length) hl hg (aHT _);obtain⟨⟨k,rfl⟩,h4,h5⟩:=Q9 hg hl h2;dsimp only[cond];rw[h2];simp only[amN] at h hl;cases r with
    |inl n=>
     have h6:=h5 n rfl;exact ih _ _ _ (hg.drop k) (by omega) (by omega)
    |inr d=>
     obtain⟨j,hj⟩:=Rx ((t::l).drop k);refine ih _ _ _ ?_ (by omega) (by omega);rw[hj];exact(hg.drop k).drop j
section
variable {source:ByteArray}{ts:List Tk}(DK:ts.length<=10000)
include DK
theorem aLP:∀(j k:Nat),k<=ts.length->ts.length - k<=j->∃n k':Nat,k<=k'/\k'<=ts.length/\SL (ts.drop k)=ts.drop k'/\CT (λx=>DJ source ts x) n (k:Int)=some (.inl (k':Int)):=by
 have stop:∀{k:Nat}{y:Int},DJ source ts (k:Int)=some (.ex y)->CT (λx=>DJ source ts x) 1 (k:Int)=some (.inl y):=by intro k y h;show(DJ source ts (k:Int)).bind _=_;rw[h];rfl
 intro j
 induction j with
 |zero=>
  intro k hk hj;have:k=ts.length:=by omega
  refine⟨1,k,aHT k,hk,?_,stop ?_⟩;rw[bbX (by omega)];rfl;unfold DJ;rw[EA (by omega)];rfl
 |succ j ih=>
  intro k hk hj;rcases JF ts hk with ⟨h1,h2⟩ | ⟨t,h1,h2,h3⟩
  ·refine⟨1,k,aHT k,hk,?_,stop ?_⟩
   rw[h2];rfl;unfold DJ;rw[EA (by omega)];rfl
  ·have hs:∀x,Mk x (ts.drop k)=BE t.text.data.toList x.data.toList:=λx=>by rw[h3];rfl
   have hL:DJ source ts (k:Int)=if VH t then some (.ex (k:Int)) else some (.nx ((k+1:Nat):Int)):=by unfold DJ VH;rw[F5 (by omega)];dsimp only[cond];rw[GL hk,GL hk,GL hk,TC,hs,hs,hs];cases BE t.text.data.toList PZ.data.toList;cases BE t.text.data.toList LJ.data.toList;cases BE t.text.data.toList E4.data.toList;rw[<- Eo (by omega) hk];rfl;rfl;rfl;rfl
   cases hi:VH t with
   |true=>
    refine⟨1,k,aHT k,hk,?_,stop ?_⟩;rw[h3];unfold SL;rw[hi];rfl;rw[hL,hi];rfl
   |false=>
    obtain⟨n,k',a1,a2,a3,a4⟩:=ih (k+1) h1 (by omega);refine⟨n+1,k',by omega,a2,?_,?_⟩;rw[h3];unfold SL;rw[hi];exact a3;show(DJ source ts (k:Int)).bind _=_;rw[hL,hi];exact a4
theorem aST(hg:Gl ts):∀(q k:Nat)(ks:List Nd)(ds:List Dg)(r:List Nd×List Dg),k<=ts.length->ks.length+ds.length+q<=100000->XJ ((source.data.toList.length:Nat):Int) q (ts.drop k) ks ds=some r ->
 ∃n k':Nat,CT (λx:List Dg×List Nd×Int=>Ce source ts x.1 x.2.1 x.2.2) n (ds,ks,(k:Int))=some (.inl (r.2,r.1,(k':Int))):=by
 intro q
 induction q with
 |zero=>intro k ks ds r hk hq h;cases h
 |succ q ih=>
  intro k ks ds r hk hq h
  have stop:Ce source ts ds ks (k:Int)=some (.ex (ds,ks,(k:Int)))->CT (λx:List Dg×List Nd×Int=>Ce source ts x.1 x.2.1 x.2.2) 1 (ds,ks,(k:Int))=some (.inl (ds,ks,(k:Int))):=by intro h;show(Ce source ts ds ks (k:Int)).bind _=_;rw[h];rfl
  rcases JF ts hk with ⟨h1,h2⟩ | ⟨t,h1,h2,h3⟩
  ·rw[h2] at h
   have:r=(ks,ds):=(bbJ h).symm;subst this;refine⟨1,k,stop ?_⟩;unfold Ce;rw[EA (by omega)];rfl
  ·rw[h3] at h
   unfold XJ at h;rw[<- h3] at h;cases hd:CV ((ds.length:Nat):Int) 20 with
   |false=>
    rw[hd] at h;have:r=(ks,ds):=(bbJ h).symm;subst this;refine⟨1,k,stop ?_⟩;unfold Ce;rw[F5 (by omega),hd];rfl
   |true=>
    rw[hd] at h;dsimp only[cond] at h;split at h;cases h;rename_i n s hi;obtain⟨k1,a1,a2,rfl,a4⟩:=anX DK hg hk hi;obtain⟨m,k',b1⟩:=ih k1 (ks++[n]) ds r a2 (by simp only[cZ,bbK];omega) h;refine⟨m+1,k',?_⟩
    have hL:Ce source ts ds ks (k:Int)=some (.nx (ds,ks++[n],(k1:Int))):=by unfold Ce Hj;rw[F5 (by omega),hd,a4];dsimp only[cond,bbZ,asW];rw[Ge (by omega)]
    show(Ce source ts ds ks (k:Int)).bind _=_;rw[hL];exact b1;rename_i d s hi;obtain⟨k1,a1,a2,rfl,a4⟩:=anX DK hg hk hi;obtain⟨j,k2,c1,c2,c3,c4⟩:=aLP (source:=source) DK (ts.length - k1) k1 a2 (aHT _);rw[c3] at h;obtain⟨m,k',b1⟩:=ih k2 ks (ds++[d]) r c2 (by simp only[cZ,bbK];omega) h;refine⟨m+1,k',?_⟩
    have hL:Ce source ts ds ks (k:Int)=some (.nx (ds++[d],ks,(k2:Int))):=by unfold Ce Hj;rw[F5 (by omega),hd,a4];dsimp only[cond,bbZ,asW];rw[Ge (by omega),D0 c4];rfl
    show(Ce source ts ds ks (k:Int)).bind _=_;rw[hL];exact b1
end
def Fj(s:ByteArray):List Tk:=(LexS.NF s.data.toList).1.map J6
def NE(s:ByteArray):Nat:=(LexS.NF s.data.toList).2.1
def axA(s:ByteArray):Nat:=(LexS.NF s.data.toList).2.2
def L3(ks:List Nd):Nd:=⟨1,VE,VE,0,0,0,0,⟨0,[]⟩,ks,0⟩
theorem agY{s:ByteArray}(h:NE s≠0):Ci s=some (z0,[⟨(NE s:Int),(axA s:Int)⟩]):=by unfold Ci Fy;rw[TC];dsimp only;rw[Kx (by unfold NE at h;omega)];rfl
theorem agZ{s:ByteArray}(h:NE s=0)(hg:Gl (Fj s))(hl:(Fj s).length<=10000):∃ks ds,XJ ((s.data.toList.length:Nat):Int) ((Fj s).length+1) (Fj s) [] []=some (ks,ds)/\Ci s=cond (CV 0 ((ds.length:Nat):Int)) (some (z0,ds)) (DM (L3 ks)):=by
 obtain⟨⟨ks,ds⟩,h1⟩:=asU (en:=((s.data.toList.length:Nat):Int)) ((Fj s).length+1) (Fj s) [] [] hg hl (Nat.lt_succ_self _);refine⟨ks,ds,h1,?_⟩;obtain⟨n,k',h2⟩:=aST (source:=s) hl hg ((Fj s).length+1) 0 [] [] _ (bcJ _) (by simp only[amO];omega) (by rw[bbQ];exact h1);unfold Ci Fy;rw[TC];dsimp only;rw[Vd (by unfold NE at h;omega)];dsimp only[cond];have h2:CT (λx:List Dg×List Nd×Int=>Ce s (biX J6 (LexS.NF s.data.toList).fst) x.1 x.2.1 x.2.2) n ([],[],0)=some (.inl (ds,ks,(k':Int))):=h2;rw[D0 h2,TC];dsimp only[GF];cases CV 0 ((ds.length:Nat):Int);dsimp only;show(DM (L3 ks)).bind _=DM (L3 ks);cases DM (L3 ks)<;>rfl
 rfl
end Mo
end Go.Proofs.YtkcimienkafhmaaGreatDoor
namespace Go.Proofs.YtkcimienkafhmaaGreatDoor
open AI Go LexS
namespace Mo
def Tv(c:UInt8):Prop:=48<=c.toNat/\c.toNat<=57
theorem akI:∀n < 128,(Nx n &&& 8)≠0->48<=n/\n<=57:=by decide
theorem auY{c:UInt8}(h:cin 8 c=true):Tv c:=by
 unfold cin at h;by_cases hc:c.toNat < 128;exact akI _ hc (by simpa using h)
 rw[mU _ (by omega)] at h;simp at h
theorem uW(t:List UInt8):∀c∈t.take (Bb 8 t),Tv c:=by
 unfold Bb
 induction t with
 |nil=>intro c hc;cases hc
 |cons x t ih=>
  intro c hc;rw[beM] at hc;split at hc;rename_i hx;rw[amN,beA] at hc;rcases bbG.1 hc with rfl | hc
  exact auY hx;exact ih c hc;cases hc
theorem avG:∀(l:List UInt8)(acc:Nat),(∀c∈l,Tv c)->∃n,Lib.decFrom acc l=some n/\n < (acc+1)*10 ^ l.length:=by
 intro l
 induction l with
 |nil=>intro acc _;exact⟨acc,rfl,by simp⟩
 |cons c l ih=>
  intro acc h;have hc:=h c (bbU ..);obtain⟨n,h1,h2⟩:=ih (acc*10+(c.toNat - 48)) (λx hx=>h x (bbP _ hx));refine⟨n,?_,aUS h2 ?_⟩;unfold Lib.decFrom bkG;rw[if_pos (show 48<=c.toNat/\c.toNat<=57 from hc)];exact h1;rw[amN,blZ,Nat.mul_comm (10 ^ l.length) 10,<- Nat.mul_assoc];exact Nat.mul_le_mul_right _ (by have:=hc.2;omega)
theorem ajU{l:List UInt8}(h0:l≠[])(hl:l.length<=12)(h:∀c∈l,Tv c):∃z,Lib.atoi l=some z/\0<=z/\z<=999999999999:=by
 cases l with
 |nil=>exact absurd rfl h0
 |cons c l=>
  obtain⟨n,h1,h2⟩:=avG (c::l) 0 h;have hc:=h c (bbU ..);have hlt:n < 10 ^ 12:=aUS h2 (by rw[aUU,Nat.one_mul];exact Nat.pow_le_pow_right (by omega) hl);refine⟨(n:Int),?_,by omega,by omega⟩
  have e1:(c == 45)=false:=by apply beq_false_of_ne;rintro rfl;exact absurd hc.1 (by decide)
  have e2:(c == 43)=false:=by apply beq_false_of_ne;rintro rfl;exact absurd hc.1 (by decide)
  unfold Lib.atoi Lib.decNat;dsimp only;rw[e1,e2];simp only[bbC,if_false,List.isEmpty_cons];rw[h1];rfl
theorem kH:∀(d r:List UInt8),(∀c∈d,Tv c)->bgY (d++46::r) 46=d.length
 |[],r,_=>by unfold bgY;rfl
 |c::d,r,h=>by
  have ih:=kH d r (λx hx=>h x (bbP _ hx));have hc:=h c (bbU ..)
  have e1:(c == 46)=false:=by apply beq_false_of_ne;rintro rfl;exact absurd hc.1 (by decide)
  rw[bcP];unfold bgY;rw[e1,ih];simp
theorem bV{l:List UInt8}(h0:l≠[])(hl:l.length<=12)(h:∀c∈l,Tv c):∃z,Tn ⟨l.toArray⟩=some (z,())/\0<=z/\z<=999999999999:=by obtain⟨z,h1,h2⟩:=ajU h0 hl h;refine⟨z,?_,h2⟩;unfold Tn;rw[if_pos (by simp;omega)];simp only[beL,h1,Option.map_some]
theorem ahH{s:List UInt8}(k:Nat)(h:Lib.index s [46]=-1):bkH [46] [] k s=s:=by cases k with|zero=>rfl|succ k=>unfold bkH;rw[h];rfl
theorem sA:∀(d:List UInt8),(∀c∈d,Tv c)->bgY d 46=-1
 |[],_=>rfl
 |c::d,h=>by
  have ih:=sA d (λx hx=>h x (bbP _ hx));have hc:=h c (bbU ..)
  have e1:(c == 46)=false:=by apply beq_false_of_ne;rintro rfl;exact absurd hc.1 (by decide)
  unfold bgY;rw[e1,ih];simp
theorem ayS{d:List UInt8}(h:∀c∈d,Tv c):Lib.replace d [46] [] 1=d:=by unfold Lib.replace;rw[if_neg (by decide)];exact ahH _ (by rw[blQ,sA d h])
theorem aqQ{d r:List UInt8}(h:∀c∈d,Tv c):Lib.replace (d++46::r) [46] [] 1=d++r:=by
 have hi:Lib.index (d++46::r) [46]=(d.length:Int):=by rw[blQ,kH d r h]
 have hn:blH (d++46::r) [46] 1=1:=by
  have:1<=Lib.count (d++46::r) [46]:=by unfold Lib.count Lib.countFrom;rw[hi,if_neg (by simp)];omega
  unfold blH;rw[if_neg (by omega)];rfl
 unfold Lib.replace;rw[if_neg (by decide),hn,Lib.replaceK_hit _ _ _ _ _ hi];unfold bkH;simp
theorem jU{k a:Int}{l m:List UInt8}(hr:Lib.replace l [46] [] 1=m)(hl:l.length<=20)(h0:m≠[])(hm:m.length<=12)(h:∀c∈m,Tv c):∃z,EF ⟨k,⟨l.toArray⟩,a⟩=some z/\0<=z/\z<=999999999999:=by
 obtain⟨z,h1,h2⟩:=bV h0 hm h;refine⟨z,?_,h2⟩;unfold EF
 have:MA ⟨l.toArray⟩ Nr VE 1=some ⟨m.toArray⟩:=by
  unfold MA
  rw[if_pos ⟨by decide,by
   have:(VE).size=0:=rfl;have h2:(⟨l.toArray⟩:ByteArray).size=l.length:=by simp[ByteArray.size]
   rw[this,h2];omega⟩]
  have:(Nr).data.toList=[46]:=rfl;rw[this];simp only[beL];rw[show(VE).data.toList=[] from rfl,hr]
 dsimp only;rw[this,TC,h1];rfl
def aCI(y m:Nat):Bool:=match AG (2000+y) m,BD (12*y+m) with|some n,some f=>Nat.ble 1 n.toNat&&(Nat.ble 0 f.toNat&&(decide (0<=n/\n<=31/\0<=f/\f+n<=36525)))|_,_=>false
theorem auV:((bcB 100).all λy=>(bcB 12).all λm=>aCI y m)=true:=by kernel_rfl
theorem aGP{y m:Nat}(hy:y < 100)(hm:m < 12):∃n f:Int,AG (2000+y) m=some n/\BD (12*y+m)=some f/\0<=n/\n<=31/\0<=f/\f+n<=36525:=by have h:=bcC.1 (bcC.1 auV y (bcZ.2 hy)) m (bcZ.2 hm);unfold aCI at h;split at h;rename_i n f h1 h2;simp only[aUR,decide_eq_true_eq] at h;exact⟨n,f,h1,h2,h.2.2.1,h.2.2.2.1,h.2.2.2.2.1,h.2.2.2.2.2⟩;cases h
theorem akT(y m d:Int)(hy:0<=y/\y<=100000)(hm:0<=m/\m<=100000)(hd:0<=d/\d<=100000):∃z e,LB y m d=some (z,e)/\(e=0->0<=z/\z<=36524):=by have bad:∃z e,(some ((0:Int),(21:Int)):Option (Int×Int))=some (z,e)/\(e=0->0<=z/\z<=36524):=⟨0,21,rfl,λh=>by omega⟩;unfold LB;cases h1:CV y 2000;rotate_left;exact bad;cases h2:CV 2099 y;rotate_left;exact bad;cases h3:CV m 1;rotate_left;exact bad;cases h4:CV 12 m;rotate_left;exact bad;cases h5:CV d 1;rotate_left;exact bad;have h1:=Lh h1;have h2:=Lh h2;have h3:=Lh h3;have h4:=Lh h4;have h5:=Lh h5;obtain⟨n,f,a1,a2,a3,a4,a5,a6⟩:=aGP (y:=(y - 2000).toNat) (m:=(m - 1).toNat) (by omega) (by omega);rw[show(2000:Int)+((y - 2000).toNat:Nat)=y by omega,show(((m - 1).toNat:Nat):Int)=m - 1 by omega] at a1;rw[show 12*(((y - 2000).toNat:Nat):Int)+(((m - 1).toNat:Nat):Int)=(y - 2000)*12+m - 1 by omega] at a2;dsimp only[cond];rw[Ii (a:=m) (by omega),a1,TC];cases h6:CV n d;have h6:=Lh h6;dsimp only;rw[Ii (a:=y) (by omega),FU (by omega),BS (by omega),Ii (by omega),a2,TC];rw[BS (by omega),Ii (by omega)];exact⟨_,0,rfl,λ_=>by omega⟩;exact bad
theorem alB{c:UInt8}(hc:Tv c):w64 (N6 .u8 (oV ((c.toNat:Nat):Int) 48))=(c.toNat:Int) - 48:=by
 have h1:=hc.1;have h2:=hc.2
 have e:N6 .u8 (oV ((c.toNat:Nat):Int) 48)=(c.toNat:Int) - 48:=by rw[oW,KR];unfold blX;simp[blY,blE];omega
 rw[e];unfold w64;exact aeV (by omega)
section
variable {i:Nat}{c:UInt8}(h4:i≠4)(h7:i≠7)(hc:Tv c){a b d:Int}(ha:0<=a/\a<=1000)(hb:0<=b/\b<=1000)(hd:0<=d/\d<=1000)
include h4 h7 hc
theorem cl0(ha:0<=a/\a<=1000):Ca i c 0 a b d=some (.nx (0,a*10+((c.toNat:Int) - 48),b,d)):=by have h1:=hc.1;have h2:=hc.2;unfold Ca;rw[Kx (a:=(i:Int)) (b:=4) (by omega),Kx (a:=(i:Int)) (b:=7) (by omega),EA (b:=48) (by omega),EA (a:=57) (by omega),alB hc];dsimp only[cond];rw[FU (a:=a) (by omega),BS (a:=a*10) (by omega)];rfl
theorem cl1(hb:0<=b/\b<=1000):Ca i c 1 a b d=some (.nx (1,a,b*10+((c.toNat:Int) - 48),d)):=by have h1:=hc.1;have h2:=hc.2;unfold Ca;rw[Kx (a:=(i:Int)) (b:=4) (by omega),Kx (a:=(i:Int)) (b:=7) (by omega),EA (b:=48) (by omega),EA (a:=57) (by omega),alB hc];dsimp only[cond];rw[FU (a:=b) (by omega),BS (a:=b*10) (by omega)];rfl
theorem cl2(hd:0<=d/\d<=1000):Ca i c 2 a b d=some (.nx (2,a,b,d*10+((c.toNat:Int) - 48))):=by have h1:=hc.1;have h2:=hc.2;unfold Ca;rw[Kx (a:=(i:Int)) (b:=4) (by omega),Kx (a:=(i:Int)) (b:=7) (by omega),EA (b:=48) (by omega),EA (a:=57) (by omega),alB hc];dsimp only[cond];rw[FU (a:=d) (by omega),BS (a:=d*10) (by omega)];rfl
end
abbrev clF:=Bu (λi y (x:Int×Int×Int×Int)=>Ca i y x.1 x.2.1 x.2.2.1 x.2.2.2) (λx:Int×Int×Int×Int=>(x.2.1,x.2.2.1,x.2.2.2))
section
variable {i:Nat}{c:UInt8}(h4:i≠4)(h7:i≠7)(hc:Tv c){a b d:Int}{l:List UInt8}
include h4 h7 hc
theorem fo0(ha:0<=a/\a<=1000):clF (c::l) i (0,a,b,d)=clF l (i+1) (0,a*10+((c.toNat:Int) - 48),b,d):=by show(Ca i c 0 a b d).bind _=_;rw[cl0 h4 h7 hc ha];rfl
theorem fo1(ha:0<=b/\b<=1000):clF (c::l) i (1,a,b,d)=clF l (i+1) (1,a,b*10+((c.toNat:Int) - 48),d):=by show(Ca i c 1 a b d).bind _=_;rw[cl1 h4 h7 hc ha];rfl
theorem fo2(ha:0<=d/\d<=1000):clF (c::l) i (2,a,b,d)=clF l (i+1) (2,a,b,d*10+((c.toNat:Int) - 48)):=by show(Ca i c 2 a b d).bind _=_;rw[cl2 h4 h7 hc ha];rfl
end
theorem fo4{l:List UInt8}{a b d:Int}:clF (45::l) (0+1+1+1+1) (0,a,b,d)=clF l (0+1+1+1+1+1) (1,a,b,d):=rfl
theorem fo7{l:List UInt8}{a b d:Int}:clF (45::l) (0+1+1+1+1+1+1+1) (1,a,b,d)=clF l (0+1+1+1+1+1+1+1+1) (2,a,b,d):=rfl
theorem afW{c0 c1 c2 c3 c5 c6 c8 c9:UInt8}(h0:Tv c0)(h1:Tv c1)(h2:Tv c2)(h3:Tv c3)(h5:Tv c5)(h6:Tv c6)(h8:Tv c8)(h9:Tv c9) :
   ∃z e,Gt ⟨([c0,c1,c2,c3,45,c5,c6,45,c8,c9]:List UInt8).toArray⟩=some (z,e)/\(e=0->0<=z/\z<=36524):=by
 have b0:=h0;have b1:=h1;have b2:=h2;have b3:=h3;have b5:=h5;have b6:=h6;have b8:=h8;have b9:=h9;unfold Tv at b0 b1 b2 b3 b5 b6 b8 b9;obtain⟨z,e,hz,he⟩:=akT ((((0*10+((c0.toNat:Int) - 48))*10+((c1.toNat:Int) - 48))*10+((c2.toNat:Int) - 48))*10+((c3.toNat:Int) - 48)) ((0*10+((c5.toNat:Int) - 48))*10+((c6.toNat:Int) - 48)) ((0*10+((c8.toNat:Int) - 48))*10+((c9.toNat:Int) - 48)) (by omega) (by omega) (by omega);refine⟨z,e,?_,he⟩;unfold Gt;rw[Vd (by rfl)];dsimp only[cond]
 have key:Bu (λi y x=>Ca i y x.1 x.2.1 x.2.2.1 x.2.2.2) (λx:Int×Int×Int×Int=>(x.2.1,x.2.2.1,x.2.2.2)) [c0,c1,c2,c3,45,c5,c6,45,c8,c9] 0 (0,0,0,0)=some (.inl ((((0*10+((c0.toNat:Int) - 48))*10+((c1.toNat:Int) - 48))*10+((c2.toNat:Int) - 48))*10+((c3.toNat:Int) - 48),(0*10+((c5.toNat:Int) - 48))*10+((c6.toNat:Int) - 48),(0*10+((c8.toNat:Int) - 48))*10+((c9.toNat:Int) - 48))):=by show clF [c0,c1,c2,c3,45,c5,c6,45,c8,c9] 0 (0,0,0,0)=_;rw[fo0 (by decide) (by decide) h0 (by omega)];rw[fo0 (by decide) (by decide) h1 (by omega)];rw[fo0 (by decide) (by decide) h2 (by omega)];rw[fo0 (by decide) (by decide) h3 (by omega)];rw[fo4];rw[fo1 (by decide) (by decide) h5 (by omega)];rw[fo1 (by decide) (by decide) h6 (by omega)];rw[fo7];rw[fo2 (by decide) (by decide) h8 (by omega)];rw[fo2 (by decide) (by decide) h9 (by omega)];rfl
 have hl:B6 ([c0,c1,c2,c3,45,c5,c6,45,c8,c9]:List UInt8).length=λy:Option ((Int×Int×Int)⊕(Int×Int))=>y:=funext λy=>if_pos (by simp);simp only[beL,bbQ];rw[hl,key];dsimp only[bbZ,GF];rw[hz]
def W4{m:Nat}{t:List UInt8}(h:I7 m t=true):∃c u,t=c::u/\cin m c=true:=by cases t with|nil=>cases h|cons c u=>exact⟨c,u,rfl,h⟩
def YI:∀(t:List UInt8) (ys:List (List UInt8)),(RB t ys).1=0\/(RB t ys).1=6
 |_,[]=>.inl rfl
 |t,y::ys=>by
  unfold RB;split;exact .inr rfl;exact YI t ys
def arT{t:List UInt8}(h:I7 8 t=true):1<=Bb 8 t:=by obtain⟨c,u,rfl,hc⟩:=W4 h;rw[En,if_pos hc];omega
def afV{t:List UInt8}(h:Gb t=true):∃c0 c1 c2 c3 c5 c6 c8 c9,t.take 10=[c0,c1,c2,c3,45,c5,c6,45,c8,c9]/\Tv c0/\Tv c1/\Tv c2/\Tv c3/\Tv c5/\Tv c6/\Tv c8/\Tv c9:=by
 unfold Gb at h;rw[aUR] at h;obtain⟨hl,h⟩:=h;have hl:=of_decide_eq_true hl;have hd:=λi hi=>bcC.1 h i (bcZ.2 hi)
 match t,hl with
 |c0::c1::c2::c3::c4::c5::c6::c7::c8::c9::u,_=>
  have e4:c4=45:=by have:=hd 4 (by decide);simpa[Hy] using this
  have e7:c7=45:=by have:=hd 7 (by decide);simpa[Hy] using this
  have g:∀(i:Nat)(c:UInt8)(v:List UInt8),i < 10->i≠4->i≠7->(c0::c1::c2::c3::c4::c5::c6::c7::c8::c9::u).drop i=c::v->Tv c:=by intro i c v h1 h4 h7 h;have:=hd i h1;unfold Hy at this;rw[if_neg (by omega),h] at this;exact auY this
  subst e4 e7
  exact⟨c0,c1,c2,c3,c5,c6,c8,c9,rfl,g 0 _ _ (by decide) (by decide) (by decide) rfl,g 1 _ _ (by decide) (by decide) (by decide) rfl,g 2 _ _ (by decide) (by decide) (by decide) rfl,g 3 _ _ (by decide) (by decide) (by decide) rfl,
   g 5 _ _ (by decide) (by decide) (by decide) rfl,g 6 _ _ (by decide) (by decide) (by decide) rfl,g 8 _ _ (by decide) (by decide) (by decide) rfl,g 9 _ _ (by decide) (by decide) (by decide) rfl⟩
def wX{t:List UInt8}(h1:(t.drop (Bb 8 t)).head?=some 46)(h2:I7 8 (t.drop (Bb 8 t+1))=true)(h3:I7 8 (t.drop (Bb 8 t+2))=true) :
   ∃x y,t.take (Bb 8 t+3)=t.take (Bb 8 t)++46::[x,y]/\Tv x/\Tv y:=by
 obtain⟨x,u,hx,hx2⟩:=W4 h2;obtain⟨y,v,hy,CI⟩:=W4 h3;generalize hd:Bb 8 t=d at *
 have e1:t.drop d=46::t.drop (d+1):=by
  cases hq:t.drop d with
  |nil=>rw[hq] at h1;cases h1
  |cons a b=>
   rw[hq] at h1;have:t.drop (d+1)=b:=by rw[<- bbO,hq];rfl
   rw[this];simp only[bhG,aUQ] at h1;rw[h1]
 have e2:t.drop (d+1)=x::t.drop (d+2):=by rw[hx,show d+2=(d+1)+1 from rfl,<- bbO,hx];rfl
 refine⟨x,y,?_,auY hx2,auY CI⟩;rw[List.take_add,e1,e2,hy];rfl
def asT{t:List UInt8}{o:Nat}(ht:t.length<=6000)(h:(Bi t).1≠0):Gd (J6 ((Bi t).1,t.take (Bi t).2,o)):=by
 have hlen:(t.take (Bi t).2).length<=6000:=by rw[bbT];omega
 have hlen:(J6 ((Bi t).1,t.take (Bi t).2,o)).text.data.toList.length<=6000:=hlen
 have other:(Bi t).1≠3->(Bi t).1≠4->(Bi t).1≠5->Gd (J6 ((Bi t).1,t.take (Bi t).2,o)):=by intro h3 h4 h5;refine⟨λh=>?_,λh=>?_,λh=>?_,hlen⟩;have:(((Bi t).1:Nat):Int)=3:=h;omega;have:(((Bi t).1:Nat):Int)=3\/(((Bi t).1:Nat):Int)=4:=h;omega;have:(((Bi t).1:Nat):Int)=5:=h;omega
 by_cases c2:I7 2 t=true;refine other ?_ ?_ ?_<;>(unfold Bi;rw[if_pos c2];split<;>simp)
 by_cases c4:I7 4 t=true;refine other ?_ ?_ ?_<;>(unfold Bi;rw[if_neg c2,if_pos c4];split<;>simp)
 by_cases c8:I7 8 t=true;rotate_left;have:Bi t=RB t F3:=by unfold Bi;rw[if_neg c2,if_neg c4,if_neg c8]
 rcases YI t F3 with h1 | h1
 rw[this] at h;exact absurd h1 h;rw[<- this] at h1;exact other (by omega) (by omega) (by omega);have hr:Bi t=IS t:=by unfold Bi;rw[if_neg c2,if_neg c4,if_pos c8]
 have hp:=arT c8;have hsp:=fS 8 t;rw[hr] at h hlen ⊢;unfold IS at h hlen ⊢;dsimp only at h hlen ⊢;by_cases hd:Gb t=true;rw[if_pos hd] at h hlen ⊢;split at h;rename_i hf;rw[if_pos hf] at hlen ⊢;refine⟨λh=>?_,λh=>?_,λh=>?_,hlen⟩;have:(((5:Nat)):Int)=3:=h;omega;have:(((5:Nat)):Int)=3\/((5:Nat):Int)=4:=h;omega;obtain⟨c0,c1,c2,c3,c5,c6,c8,c9,h0,a0,a1,a2,a3,a5,a6,a8,a9⟩:=afV hd;dsimp only[J6];rw[h0];exact afW a0 a1 a2 a3 a5 a6 a8 a9;exact absurd rfl h;rw[if_neg hd] at h hlen ⊢;by_cases h0:t.head?=some 48/\1 < Bb 8 t;rw[if_pos h0] at h;exact absurd rfl h;rw[if_neg h0] at h hlen ⊢;by_cases h1:(t.drop (Bb 8 t)).head?=some 46;rw[if_pos h1] at h hlen ⊢;by_cases h2:10 < Bb 8 t\/I7 8 (t.drop (Bb 8 t+1))=false\/I7 8 (t.drop (Bb 8 t+2))=false;rw[if_pos h2] at h;exact absurd rfl h;rw[if_neg h2] at h hlen ⊢;split at h;rename_i hf;rw[if_pos hf] at hlen ⊢;refine⟨λh=>?_,λ_=>?_,λh=>?_,hlen⟩;have:(((4:Nat)):Int)=3:=h;omega;simp only[not_or,Bool.not_eq_false] at h2;obtain⟨x,y,e,hx,hy⟩:=wX h1 h2.2.1 h2.2.2;dsimp only[J6];rw[e];have hs:=uW t;refine jU (m:=t.take (Bb 8 t)++[x,y]) (aqQ hs) ?_ (by simp) ?_ ?_;simp only[cZ,bbT,amN,amO];omega;simp only[cZ,bbT,amN,amO];omega;intro c hc;rcases bcE.1 hc with hc | hc
 exact hs c hc;simp only[bbG,bdO,or_false] at hc;rcases hc with rfl | rfl
 exact hx;exact hy;have:(((4:Nat)):Int)=5:=h;omega;exact absurd rfl h;rw[if_neg h1] at h hlen ⊢;by_cases h2:12 < Bb 8 t;rw[if_pos h2] at h;exact absurd rfl h;rw[if_neg h2] at h hlen ⊢;split at h;rename_i hf;rw[if_pos hf] at hlen ⊢;have hs:=uW t
 have hne:t.take (Bb 8 t)≠[]:=λe=>by
  have:=congrArg bfG e;rw[bbT,amO] at this;omega
 refine⟨λh=>?_,λ_=>?_,λh=>?_,hlen⟩;exact bV hne (by rw[bbT];omega) hs;exact jU (ayS hs) (by rw[bbT];omega) hne (by rw[bbT];omega) hs;have:(((3:Nat)):Int)=5:=h;omega;exact absurd rfl h
def lY:∀(n o:Nat)(t:List UInt8)(x:LexS.Tok),x∈ME n o t->x.1≠0->∃u o',u.length<=t.length/\(Bi u).1≠0/\x=((Bi u).1,u.take (Bi u).2,o'):=by
 intro n
 induction n with
 |zero=>intro o t x h;cases h
 |succ n ih=>
  intro o t x h h0;unfold ME at h;split at h;cases h;split at h;rw[bbV.1 h] at h0;exact absurd rfl h0;rename_i hr;rcases bbG.1 h with rfl | h
  exact⟨t,o,aHT _,hr,rfl⟩;obtain⟨u,o',h1,h2⟩:=ih _ _ _ h h0;refine⟨u,o',bbM h1 ?_,h2⟩;simp only[aUZ];omega
def eB:∀(l acc:List LexS.Tok),acc.length<=2000->(FZ acc l).1.length<=2000/\∀x∈(FZ acc l).1,x∈acc\/x∈l/\x.1≠0:=by
 intro l
 induction l with
 |nil=>intro acc h;exact⟨h,λx hx=>.inl hx⟩
 |cons y l ih=>
  intro acc h;unfold FZ;split;exact⟨bcJ _,λx hx=>by cases hx⟩;split;exact⟨bcJ _,λx hx=>by cases hx⟩;rename_i h1 h2;obtain⟨a,b⟩:=ih (acc++[y]) (by simp only[cZ,bbK];omega);refine⟨a,λx hx=>?_⟩;rcases b x hx with hx | ⟨hx,h0⟩
  rcases bcE.1 hx with hx | hx
  exact .inl hx;rw[bbV.1 hx];exact .inr ⟨bbU ..,h2⟩;exact .inr ⟨bbP _ hx,h0⟩
def UC(s:ByteArray):Gl (Fj s)/\(Fj s).length<=2000:=by
 unfold Fj NF;split;refine⟨?_,bcJ _⟩;intro t ht;cases ht;rename_i hs;obtain⟨a,b⟩:=eB (EZ s.data.toList) [] (bcJ _);refine⟨?_,by rw[bcQ];exact a⟩;intro t ht;obtain⟨x,hx,rfl⟩:=bfI.1 ht;rcases b x hx with hx | ⟨hx,h0⟩
 cases hx;obtain⟨u,o',h1,h2,rfl⟩:=lY _ _ _ x hx h0;rw[aUZ] at h1;exact asT (by omega) h2
set_option maxHeartbeats 4000000
theorem byt{p:Nat->Bool}(h:(bcB 256).all p=true)(c:UInt8):p c.toNat=true:=bcC.1 h _ (bcZ.2 c.toNat_lt)
theorem apV{o:Option Bool}{b:Bool}(h:(match o with | some x=>x == b | none=>false)=true):o=some b:=by cases o with|none=>cases h|some x=>rw[eq_of_beq h]
theorem ayJ(c:UInt8):MK ((c.toNat:Nat):Int)=some (cin 1 c):=apV (byt (p:=λn=>match MK ((n:Nat):Int) with | some x=>x == ((Nx n &&& 1) != 0) | none=>false) (by kernel_rfl) c)
theorem oN(c:UInt8):D8 ((c.toNat:Nat):Int)=some (cin 8 c):=apV (byt (p:=λn=>match D8 ((n:Nat):Int) with | some x=>x == ((Nx n &&& 8) != 0) | none=>false) (by kernel_rfl) c)
theorem ayH(c:UInt8):ED ((c.toNat:Nat):Int)=some (cin 2 c):=apV (byt (p:=λn=>match ED ((n:Nat):Int) with | some x=>x == ((Nx n &&& 2) != 0) | none=>false) (by kernel_rfl) c)
theorem oO(c:UInt8):Db ((c.toNat:Nat):Int)=some (cin 4 c):=apV (byt (p:=λn=>match Db ((n:Nat):Int) with | some x=>x == ((Nx n &&& 4) != 0) | none=>false) (by kernel_rfl) c)
theorem aqL(c:UInt8):Kc ((c.toNat:Nat):Int)=some (cin 30 c):=apV (byt (p:=λn=>match Kc ((n:Nat):Int) with | some x=>x == ((Nx n &&& 30) != 0) | none=>false) (by kernel_rfl) c)
theorem akK(c:UInt8):cin 30 c=(cin 2 c||(cin 4 c||(cin 8 c||cin 16 c))):=by
 have:=byt (p:=λn=>((Nx n &&& 30) != 0) == (((Nx n &&& 2) != 0)||(((Nx n &&& 4) != 0)||(((Nx n &&& 8) != 0)||((Nx n &&& 16) != 0))))) (by kernel_rfl) c
 exact eq_of_beq this
theorem akJ(c:UInt8):cin 26 c=(cin 30 c&&!cin 4 c):=by
 have:=byt (p:=λn=>((Nx n &&& 26) != 0) == (((Nx n &&& 30) != 0)&&!((Nx n &&& 4) != 0))) (by kernel_rfl) c
 exact eq_of_beq this
theorem aGS(c:UInt8)(h:cin 8 c=true):cin 2 c=false/\cin 4 c=false:=by
 have:=byt (p:=λn=>!((Nx n &&& 8) != 0)||(!((Nx n &&& 2) != 0)&&!((Nx n &&& 4) != 0))) (by kernel_rfl) c
 have h':((Nx c.toNat &&& 8) != 0)=true:=h
 rw[h'] at this
 simp only[Bool.not_true,Bool.false_or,aUR,Bool.not_eq_true'] at this
 exact this
theorem WR(c d:UInt8):Bg ((c.toNat:Nat):Int) ((d.toNat:Nat):Int)=(c == d):=by
 rw[bbR,Tw,beq_iff_eq,beq_iff_eq]
 constructor
 ·intro h;exact UInt8.toNat_inj.1 (by omega)
 ·intro h;rw[h]
theorem aGX(c:UInt8):Bg ((c.toNat:Nat):Int) 10=(c == 10):=WR c 10
theorem alD(c:UInt8):Bg ((c.toNat:Nat):Int) 46=(c == 46):=WR c 46
theorem aGY(c:UInt8):Bg ((c.toNat:Nat):Int) 45=(c == 45):=WR c 45
theorem aGZ(c:UInt8):Bg ((c.toNat:Nat):Int) 48=(c == 48):=WR c 48
section
variable {s:ByteArray}(hs:s.data.toList.length<=100000)
theorem TA{α:Type}{l:List α}{i:Nat}:FI l ((i:Nat):Int)=l[i]?:=by unfold FI;rw[if_pos (by omega)];rfl
theorem Mu{α:Type}(l:List α)(k:Nat):(l.length<=k/\l.drop k=[])\/∃x,k < l.length/\l[k]?=some x/\l.drop k=x::l.drop (k+1):=by
 rcases bdS k l.length with h | h
 ·exact .inr ⟨l[k],h,atS h,beV h⟩
 ·exact .inl ⟨h,bbX h⟩
theorem RA{a b:Nat}(h1:a<=b)(h2:b<=s.data.toList.length):Rz s (a:Int) (b:Int)=some ⟨((s.data.toList.drop a).take (b - a)).toArray⟩:=by
 unfold Rz
 rw[if_pos ⟨by omega,by omega,by omega⟩]
 rfl
theorem uX{b:Int->Option (Lp Int Int Int)}{m:Nat}(hb:∀(k:Nat) c,s.data.toList[k]?=some c->b (k:Int)=if cin m c then some (.nx ((k+1:Nat):Int)) else some (.ex (k:Int)))(he:∀k:Nat,s.data.toList.length<=k->b (k:Int)=some (.ex (k:Int))) :
   ∀(j k:Nat),s.data.toList.length - k<=j->CT b (j+1) (k:Int)=some (.inl ((k+Bb m (s.data.toList.drop k):Nat):Int)):=by
 intro j
 induction j with
 |zero=>
  intro k hk
  show(b (k:Int)).bind _=_
  rw[he k (by omega),bbX (by omega)];rfl
 |succ j ih=>
  intro k hk
  show(b (k:Int)).bind _=_
  rcases Mu s.data.toList k with ⟨h1,h2⟩ | ⟨c,h1,h2,h3⟩
  ·rw[he k h1,h2];rfl
  ·rw[hb k c h2,h3,En]
   by_cases hc:cin m c=true
   ·rw[if_pos hc,if_pos hc]
    show CT b (j+1) ((k+1:Nat):Int)=_
    rw[ih (k+1) (by omega)]
    congr 2
    omega
   ·rw[if_neg hc,if_neg hc];rfl
include hs
theorem aDT{k:Nat}(hk:k<=100000):Ls s (k:Int)=some ((k+Bb 30 (s.data.toList.drop k):Nat):Int):=by
 unfold Ls
 rw[D0 (uX (s:=s) (m:=30) (b:=λx=>Ow s x) (λk c hc=>?_) (λk hk=>?_) _ k (aHT _)),TC]
 ·rfl
 ·have hlt:=(aHS.1 hc).1
  unfold Ow
  rw[F5 (by omega),TA,hc]
  dsimp only[cond,bbZ]
  rw[aqL,BS (by omega)]
  cases cin 30 c<;>rfl
 ·unfold Ow
  rw[EA (by omega)];rfl
theorem tZ{k:Nat}(hk:k<=100000):EN s (k:Int)=some ((k+Bb 8 (s.data.toList.drop k):Nat):Int):=by
 unfold EN
 rw[D0 (uX (s:=s) (m:=8) (b:=λx=>KY s x) (λk c hc=>?_) (λk hk=>?_) _ k (aHT _)),TC]
 ·rfl
 ·have hlt:=(aHS.1 hc).1
  unfold KY
  rw[F5 (by omega),TA,hc]
  dsimp only[cond,bbZ]
  rw[oN,BS (by omega)]
  cases cin 8 c<;>rfl
 ·unfold KY
  rw[EA (by omega)];rfl
theorem tY{k:Nat}{t:ByteArray}(hk:k<=s.data.toList.length)(ht:t.data.toList.length<=100000):IE s (k:Int) t=some (t.data.toList.isPrefixOf (s.data.toList.drop k)):=by
 unfold IE
 rw[NC,Ii (by omega)]
 by_cases h:k+t.data.toList.length<=s.data.toList.length
 ·rw[eA (by omega),BS (by omega)]
  dsimp only[cond]
  rw[show(k:Int)+((t.data.toList.length:Nat):Int)=((k+t.data.toList.length:Nat):Int) by omega,RA (by omega) h,TC,show k+t.data.toList.length - k=t.data.toList.length by omega,cJ]
  dsimp only
  rw[beL]
  cases List.take t.data.toList.length (beB k s.data.toList) == t.data.toList<;>rfl
 ·rw[W9 (by omega)]
  dsimp only[cond]
  congr 1
  symm
  apply beq_false_of_ne
  intro e
  have:=congrArg bfG e
  rw[bbT,aUZ] at this
  omega
omit hs in
theorem zG{k:Nat}(hk:k<=s.data.toList.length):DP s (k:Int)=some (free (s.data.toList.drop k)):=by
 unfold DP free
 rcases Mu s.data.toList k with ⟨h1,h2⟩ | ⟨c,h1,h2,h3⟩
 ·rw[eA (by omega),h2];rfl
 ·rw[W9 (by omega),TA,h2,h3]
  dsimp only[cond,bbZ,I7,bhG]
  rw[aqL,alD]
  dsimp only
  have:(some c == some (46:UInt8))=(c == 46):=rfl
  rw[this]
  cases cin 30 c<;>cases c == 46<;>rfl
def Ra(t:List UInt8):Nat:=(t.takeWhile (λc=>c != 10)).length
omit hs in
theorem Yi(c:UInt8)(t:List UInt8):Ra (c::t)=if c == 10 then 0 else 1+Ra t:=by
 unfold Ra
 rw[beM,bne]
 cases c == 10
 ·simp only[Bool.not_false,if_true,amN,bbC,if_false];omega
 ·rfl
omit hs in
theorem agA(t:List UInt8):JA true t=Ra t+JA false (t.drop (Ra t)):=by
 induction t with
 |nil=>rfl
 |cons c t ih=>
  rw[Yi]
  by_cases hc:c=10
  ·subst hc
   exact(rH t).trans (by simp)
  ·have:(c == 10)=false:=beq_false_of_ne hc
   rw[this,alS c t hc,ih,if_neg (by simp),bfH 1 (Ra t),List.drop_succ_cons]
   omega
theorem aKW:∀(j k:Nat),s.data.toList.length - k<=j->k<=s.data.toList.length->CT (λx=>Fu s x) (j+1) (k:Int)=some (.inl ((k+Ra (s.data.toList.drop k):Nat):Int)):=by
 have stop:∀k:Nat,s.data.toList.length<=k->Fu s (k:Int)=some (.ex (k:Int)):=λk h=>by
  unfold Fu
  rw[EA (by omega)];rfl
 intro j
 induction j with
 |zero=>
  intro k hk hl
  show(Fu s (k:Int)).bind _=_
  rw[stop k (by omega),bbX (by omega)];rfl
 |succ j ih=>
  intro k hk hl
  show(Fu s (k:Int)).bind _=_
  rcases Mu s.data.toList k with ⟨h1,h2⟩ | ⟨c,h1,h2,h3⟩
  ·rw[stop k h1,h2];rfl
  ·have:Fu s (k:Int)=if (c == 10)=true then some (.ex (k:Int)) else some (.nx ((k+1:Nat):Int)):=by
    unfold Fu
    rw[F5 (by omega),TA,h2]
    dsimp only[cond,bbZ]
    rw[aGX,BS (by omega)]
    cases c == 10<;>rfl
   rw[this,h3,Yi]
   cases c == 10
   ·show CT (λx=>Fu s x) (j+1) ((k+1:Nat):Int)=_
    rw[ih (k+1) (by omega) (by omega)]
    congr 2
    simp only[bbC,if_false]
    omega
   ·rfl
omit hs in
theorem aoP(t:List UInt8):Ra t<=t.length:=(List.takeWhile_sublist _).length_le
theorem ahF:∀(j k:Nat),s.data.toList.length - k<=j->k<=s.data.toList.length->∃r,CT (λx=>D9 s x) (j+1) (k:Int)=some r/\(r=.inl ((k+JA false (s.data.toList.drop k):Nat):Int)\/r=.inr ((k+JA false (s.data.toList.drop k):Nat):Int)):=by
 have stop:∀k:Nat,s.data.toList.length<=k->D9 s (k:Int)=some (.ex (k:Int)):=λk h=>by
  unfold D9
  rw[EA (by omega)];rfl
 intro j
 induction j with
 |zero=>
  intro k hk hl
  refine⟨.inl (k:Int),?_,.inl ?_⟩
  ·show(D9 s (k:Int)).bind _=_
   rw[stop k (by omega)];rfl
  ·rw[bbX (by omega)];rfl
 |succ j ih=>
  intro k hk hl
  rcases Mu s.data.toList k with ⟨h1,h2⟩ | ⟨c,h1,h2,h3⟩
  ·refine⟨.inl (k:Int),?_,.inl ?_⟩
   ·show(D9 s (k:Int)).bind _=_
    rw[stop k h1];rfl
   ·rw[h2];rfl
  ·have e:D9 s (k:Int)=cond (cin 1 c) (some (.nx ((k+1:Nat):Int))) (cond (([47,47]:List UInt8).isPrefixOf (s.data.toList.drop k)) (some (.nx ((k+Ra (s.data.toList.drop k):Nat):Int))) (some (.rt (k:Int)))):=by
    unfold D9
    rw[F5 (by omega),TA,h2]
    dsimp only[cond,bbZ]
    rw[ayJ,BS (by omega)]
    dsimp only
    rw[tY hs hl (show(zA).data.toList.length<=100000 by decide)]
    rw[show(zA).data.toList=[47,47] from rfl]
    dsimp only
    rw[D0 (aKW hs _ k (aHT _) hl)]
    rfl
   cases hw:cin 1 c with
   |true=>
    obtain⟨r,h4,h5⟩:=ih (k+1) (by omega) (by omega)
    refine⟨r,?_,?_⟩
    ·show(D9 s (k:Int)).bind _=_
     rw[e,hw]
     exact h4
    ·have:k+JA false (s.data.toList.drop k)=k+1+JA false (s.data.toList.drop (k+1)):=by
      rw[h3]
      show k+(if false=true then _ else if cin 1 c=true then 1+JA false (s.data.toList.drop (k+1)) else _)=_
      rw[if_neg (by simp),if_pos hw];omega
     rw[this];exact h5
   |false=>
    cases hp:([47,47]:List UInt8).isPrefixOf (s.data.toList.drop k) with
    |false=>
     refine⟨.inr (k:Int),?_,.inr ?_⟩
     ·show(D9 s (k:Int)).bind _=_
      rw[e,hw,hp];rfl
     ·rw[rI _ (by rw[h3];exact hw) hp];rfl
    |true=>
     have hl2:1<=Ra (s.data.toList.drop k):=by
      rw[h3] at hp ⊢
      rw[Yi]
      have:c=47:=by
       have:=hp
       simp only[List.isPrefixOf,aUR] at this
       exact(eq_of_beq this.1).symm
      rw[this,if_neg (by decide)];omega
     have vW:=aoP (s.data.toList.drop k)
     rw[aUZ] at vW
     obtain⟨r,h4,h5⟩:=ih (k+Ra (s.data.toList.drop k)) (by omega) (by omega)
     refine⟨r,?_,?_⟩
     ·show(D9 s (k:Int)).bind _=_
      rw[e,hw,hp]
      exact h4
     ·have:k+JA false (s.data.toList.drop k)=k+Ra (s.data.toList.drop k)+JA false (s.data.toList.drop (k+Ra (s.data.toList.drop k))):=by
       rw[Y4 _ hp,agA,bbO];omega
      rw[this];exact h5
theorem aqK{k:Nat}(hk:k<=s.data.toList.length):Kb s (k:Int)=some ((k+IH (s.data.toList.drop k):Nat):Int):=by
 obtain⟨r,h1,h2⟩:=ahF hs _ k (aHT _) hk
 unfold Kb
 rw[D0 h1,TC]
 rcases h2 with rfl | rfl<;>rfl
omit hs in
theorem aGU(t:List UInt8):Gb t=(decide (10<=t.length)&&(bjA 0 10).all (Hy t)):=by unfold Gb;rw[List.range_eq_range']
theorem aKV{k:Nat}(hk:k<=s.data.toList.length):Ou s (k:Int)=some (Gb (s.data.toList.drop k)):=by
 rw[aGU]
 unfold Ou
 rw[Ii (by omega),aUZ]
 by_cases hl:10<=s.data.toList.length - k
 ·rw[EA (by omega),decide_eq_true hl]
  dsimp only[cond]
  rw[bgX]
  have rnd:∀i:Nat,i < 10->H3 s (k:Int) (i:Int)=if Hy (s.data.toList.drop k) i=true then some (.nx ((i+1:Nat):Int)) else some (.rt false):=by
   intro i hi
   obtain⟨c,hc⟩:∃c,s.data.toList[k+i]?=some c:=⟨_,atS (by omega)⟩
   have nI:(s.data.toList.drop k)[i]?=some c:=by rw[List.getElem?_drop];exact hc
   unfold H3
   rw[F5 (by omega),BS (by omega),show(k:Int)+(i:Int)=((k+i:Nat):Int) by omega,TA,hc]
   dsimp only[cond,bbZ]
   rw[aGY,oN,BS (by omega)]
   have e:(some c == some (45:UInt8))=(c == 45):=rfl
   have aOP:i=4\/i=7->Hy (s.data.toList.drop k) i=(c == 45):=λh=>by
    unfold Hy
    rw[if_pos h,nI,e]
   by_cases h4:i=4
   ·rw[Vd (by omega),aOP (Or.inl h4)]
    cases c == 45<;>rfl
   rw[Kx (by omega)]
   by_cases h7:i=7
   ·rw[Vd (by omega),aOP (Or.inr h7)]
    cases c == 45<;>rfl
   rw[Kx (by omega)]
   have dg:Hy (s.data.toList.drop k) i=cin 8 c:=by
    unfold Hy
    rw[if_neg (by omega)]
    rw[<- bfJ] at nI
    cases hd:(s.data.toList.drop k).drop i with|nil=>rw[hd] at nI;cases nI|cons a l=>rw[hd] at nI;cases nI;rfl
   rw[dg]
   cases cin 8 c<;>rfl
  have key:∀d i:Nat,i+d=10->CT (λx=>H3 s (k:Int) x) (d+1) (i:Int)=some (if (bjA i d).all (Hy (s.data.toList.drop k))=true then .inl () else .inr false):=by
   intro d
   induction d with
   |zero=>
    intro i hi
    show(H3 s (k:Int) (i:Int)).bind _=_
    unfold H3
    rw[EA (by omega)];rfl
   |succ d ih=>
    intro i hi
    show(H3 s (k:Int) (i:Int)).bind _=_
    rw[rnd i (by omega),List.range'_succ,bfK]
    by_cases hd:Hy (s.data.toList.drop k) i=true
    ·rw[if_pos hd,hd,bgX]
     exact ih (i+1) (by omega)
    ·rw[if_neg hd,bhT.2 hd];rfl
  have:=key 10 0 rfl
  rw[show((0:Nat):Int)=0 from rfl] at this
  rw[D0 this,TC]
  cases (bjA 0 10).all (Hy (s.data.toList.drop k))<;>rfl
 ·rw[F5 (by omega),decide_eq_false hl];rfl
end
theorem ahL(t:List UInt8)(h:I7 8 t=false):Bb 8 t=0:=by cases t with|nil=>rfl|cons c t=>rw[En,if_neg (by have:cin 8 c=false:=h;simp[this])]
theorem arU(u:List UInt8)(hf:free (u.drop 2)=true)(h1:I7 8 u=true)(h2:I7 8 (u.drop 1)=true):Bb 8 u=2:=by
 match u,h1,h2 with
 |[c],_,h2=>simp[I7] at h2
 |c::d::v,h1,h2=>
  have e1:cin 8 c=true:=h1;have e2:cin 8 d=true:=h2;rw[En,if_pos e1,En,if_pos e2]
  have e3:Bb 8 v=0:=by
   apply ahL;cases v with
   |nil=>rfl
   |cons x v=>
    have iK:free (x::v)=true:=hf;unfold free I7 at iK;dsimp only at iK;rw[akK] at iK;show cin 8 x=false;cases hx:cin 8 x with|false=>rfl|true=>rw[hx] at iK;simp at iK
  omega
theorem atB(u:List UInt8)(h:Bb 8 u=2):I7 8 u=true/\I7 8 (u.drop 1)=true:=by
 match u,h with
 |[],h=>simp[YE] at h
 |[c],h=>
  rw[En] at h;split at h;rw[YE] at h;omega;omega
 |c::d::v,h=>
  rw[En] at h;by_cases hc:cin 8 c=true;rw[if_pos hc,En] at h;by_cases hd:cin 8 d=true;exact⟨hc,hd⟩;rw[if_neg hd] at h;omega;rw[if_neg hc] at h;omega
theorem xJ(t:List UInt8)(d e:Nat)(hd:d=Bb 8 t)(he:e=Bb 8 (t.drop (d+1)))(hn:Gb t=false)(iJ:(t.drop d).head?=some 46) :
   IS t=if ¬(t.head?=some 48/\1 < d)/\d<=10/\e=2/\free (t.drop (d+3))=true then (4,d+3) else (0,0):=by
 unfold IS;simp only[hn,bbC,if_false,<- hd];by_cases h1:t.head?=some 48/\1 < d;rw[if_pos h1,if_neg (λh=>h.1 h1)];rw[if_neg h1,if_pos iJ];by_cases h2:10 < d\/I7 8 (t.drop (d+1))=false\/I7 8 (t.drop (d+2))=false;rw[if_pos h2,if_neg];rintro⟨_,h3,h4,_⟩;rw[he] at h4;have:=atB _ h4;rw[bbO] at this;rcases h2 with h | h | h
 omega;rw[h] at this;simp at this;rw[show d+1+1=d+2 from rfl,h] at this;simp at this;rw[if_neg h2]
 have i1:I7 8 (t.drop (d+1))=true:=by cases hh:I7 8 (t.drop (d+1)) with|true=>rfl|false=>exact absurd (.inr (.inl hh)) h2
 have i2:I7 8 (t.drop (d+2))=true:=by cases hh:I7 8 (t.drop (d+2)) with|true=>rfl|false=>exact absurd (.inr (.inr hh)) h2
 by_cases h3:free (t.drop (d+3))=true
 have h5:e=2:=by rw[he];refine arU _ ?_ i1 ?_;rw[bbO];exact h3;rw[bbO];exact i2
 rw[if_pos h3,if_pos ⟨h1,by omega,h5,h3⟩];rw[if_neg h3,if_neg (λh=>h3 h.2.2.2)]
theorem xK(t:List UInt8)(d:Nat)(hd:d=Bb 8 t)(hn:Gb t=false)(iJ:¬(t.drop d).head?=some 46) :
   IS t=if ¬(t.head?=some 48/\1 < d)/\d<=12/\free (t.drop d)=true then (3,d) else (0,0):=by
 unfold IS;simp only[hn,bbC,if_false,<- hd];by_cases h1:t.head?=some 48/\1 < d;rw[if_pos h1,if_neg (λh=>h.1 h1)];rw[if_neg h1,if_neg iJ];by_cases h2:12 < d;rw[if_pos h2,if_neg (λh=>by omega)];rw[if_neg h2];by_cases h3:free (t.drop d)=true;rw[if_pos h3,if_pos ⟨h1,by omega,h3⟩];rw[if_neg h3,if_neg (λh=>h3 h.2.2)]
def Mc(r:Nat×Nat)(t:List UInt8)(k:Nat)(x:Tk×Bool):Prop:=(x.2=true->r.1≠0/\x.1=J6 (r.1,t.take r.2,k))/\(x.2=false->r.1=0)
theorem Mc.no{t:List UInt8}{k:Nat}{x:Tk}:Mc (0,0) t k (x,false):=⟨λh=>(by cases h),λ_=>rfl⟩
theorem Mc.yes{q n:Nat}(hq:q≠0){t:List UInt8}{k:Nat}:Mc (q,n) t k (J6 (q,t.take n,k),true):=⟨λ_=>⟨hq,rfl⟩,λh=>(by cases h)⟩
theorem Mc.if{p:Prop}[Decidable p]{b:Bool}(hp:p↔b=true){q n:Nat}(hq:q≠0){t:List UInt8}{k:Nat}:Mc (if p then (q,n) else (0,0)) t k (J6 (q,t.take n,k),b):=by cases b;rw[if_neg (λh=>by cases hp.1 h)];exact Mc.no;rw[if_pos (hp.2 rfl)];exact Mc.yes hq
section
variable {s:ByteArray}(hs:s.data.toList.length<=100000)
include hs
theorem apK{k d e:Nat}(hk:k+d<=s.data.toList.length)(he:e=Bb 8 ((s.data.toList.drop k).drop (d+1)))(A:Int->ByteArray->Option (Tk×Bool))(B:ByteArray->Option (Tk×Bool)) :
   cond (CV ((k+d:Nat):Int) ((s.data.toList.length:Nat):Int)) ((FI s.data.toList ((k+d:Nat):Int)).bind λc=>cond (Bg ((c.toNat:Nat):Int) 46) ((EN s (Ba ((k+d:Nat):Int) 1)).bind λy6=>(Rz s (k:Int) y6).bind λs7=>A y6 s7) ((Rz s (k:Int) ((k+d:Nat):Int)).bind λs9=>B s9)) ((Rz s (k:Int) ((k+d:Nat):Int)).bind λs11=>B s11)
     = if ((s.data.toList.drop k).drop d).head?=some 46 then A ((k+(d+1+e):Nat):Int) ⟨((s.data.toList.drop k).take (d+1+e)).toArray⟩ else B ⟨((s.data.toList.drop k).take d).toArray⟩:=by
 rw[RA (by omega) hk,show k+d - k=d by omega];rcases Mu s.data.toList (k+d) with ⟨h1,h2⟩ | ⟨c,h1,h2,h3⟩
 rw[EA (by omega),bbO,h2,if_neg (by simp)];rfl;rw[F5 (by omega),TA,h2,bbO,h3,bhG];dsimp only[cond,bbZ];rw[alD];by_cases hc:c=46;subst hc;rw[if_pos rfl,BS (by omega),show((k+d:Nat):Int)+1=((k+d+1:Nat):Int) by omega,tZ hs (by omega)];have e1:k+d+1+Bb 8 (s.data.toList.drop (k+d+1))=k+(d+1+e):=by rw[he,bbO,bdW k d 1];omega
 rw[e1];have e2:=MU 8 ((s.data.toList.drop k).drop (d+1));rw[<- he,bbO,aUZ] at e2;dsimp only;rw[RA (by omega) (by omega),show k+(d+1+e) - k=d+1+e by omega];rfl;rw[if_neg (by simpa using hc)]
 have:(c == 46)=false:=beq_false_of_ne hc;rw[this]
theorem ahE{k:Nat}(hk:k < s.data.toList.length)(h8:I7 8 (s.data.toList.drop k)=true):∃x,KZ s (k:Int)=some x/\Mc (IS (s.data.toList.drop k)) (s.data.toList.drop k) k x:=by
 unfold KZ;rw[aKV hs (by omega),TC];generalize ht:s.data.toList.drop k=t at *;have hlt:t.length=s.data.toList.length - k:=by rw[<- ht,aUZ]
 cases hd:Gb t with
 |true=>
  have hl10:10<=t.length:=by unfold Gb at hd;rw[aUR] at hd;exact of_decide_eq_true hd.1
  dsimp only[cond];rw[BS (by omega),show(k:Int)+10=((k+10:Nat):Int) by omega,RA (by omega) (by omega),TC,zG (by omega),TC,show k+10 - k=10 by omega,ht];refine⟨_,rfl,?_⟩;unfold IS;rw[if_pos hd,<- bbO,ht];exact Mc.if Iff.rfl (by decide)
 |false=>
  rw[cond_false,tZ hs (by omega),TC,ht];generalize hde:Bb 8 t=d at *;have hd1:1<=d:=by rw[<- hde];exact W5 8 t h8
  have hdl:d<=t.length:=by rw[<- hde];exact MU 8 t
  obtain⟨e,he⟩:∃e,e=Bb 8 ((s.data.toList.drop k).drop (d+1)):=⟨_,rfl⟩;have tail:=apK hs (k:=k) (d:=d) (e:=e) (by omega) he;rw[ht] at tail he;have hel:=MU 8 (t.drop (d+1));rw[<- he,aUZ] at hel;rw[BS (a:=(k:Int)) (by omega)];obtain⟨c,hc⟩:∃c,s.data.toList[k]?=some c:=⟨_,atS hk⟩;have hh:t.head?=some c:=by rw[<- ht,bfJ];exact hc
  have aPB:¬(t.head?=some 48/\1 < d)->∃x,(if (t.drop d).head?=some 46 then
   (cond (Lg (A2 ((k+d:Nat):Int) (k:Int)) 10) (cond (Bg ((k+(d+1+e):Nat):Int) (Ba ((k+d:Nat):Int) 3)) ((DP s ((k+(d+1+e):Nat):Int)).bind λy8=>some ((⟨4,⟨(t.take (d+1+e)).toArray⟩,(k:Int)⟩:Tk),y8)) (some ((⟨4,⟨(t.take (d+1+e)).toArray⟩,(k:Int)⟩:Tk),false))) (some ((⟨4,⟨(t.take (d+1+e)).toArray⟩,(k:Int)⟩:Tk),false)))
   else (cond (Lg (A2 ((k+d:Nat):Int) (k:Int)) 12) ((DP s ((k+d:Nat):Int)).bind λNW=>some ((⟨3,⟨(t.take d).toArray⟩,(k:Int)⟩:Tk),NW)) (some ((⟨3,⟨(t.take d).toArray⟩,(k:Int)⟩:Tk),false))))=some x/\Mc (IS t) t k x:=by
   intro h0;rw[Ii (by omega),show((k+d:Nat):Int) - (k:Int)=(d:Int) by omega];by_cases iJ:(t.drop d).head?=some 46;rw[if_pos iJ,xJ t d e hde.symm he hd iJ]
   have baI:d < t.length:=by
    rcases bdS d t.length with h | h
    exact h;rw[bbX h] at iJ;cases iJ
   by_cases h1:d<=10;rw[eA (by omega),BS (by omega)];dsimp only[cond];by_cases h2:e=2;subst h2;rw[Vd (by omega)];dsimp only;rw[zG (by omega),TC,<- bbO,ht];refine⟨_,rfl,?_⟩;exact Mc.if (n:=d+3) ⟨λh=>h.2.2.2,λh=>⟨h0,h1,rfl,h⟩⟩ (by decide)
   rw[Kx (by omega),if_neg (λh=>h2 h.2.2.1)];exact⟨_,rfl,Mc.no⟩;rw[W9 (by omega),if_neg (λh=>h1 h.2.1)];exact⟨_,rfl,Mc.no⟩;rw[if_neg iJ,xK t d hde.symm hd iJ];by_cases h1:d<=12;rw[eA (by omega)];dsimp only[cond];rw[zG (by omega),TC,<- bbO,ht];refine⟨_,rfl,?_⟩;exact Mc.if ⟨λh=>h.2.2,λh=>⟨h0,h1,h⟩⟩ (by decide)
   rw[W9 (by omega),if_neg (λh=>h1 h.2.1)];exact⟨_,rfl,Mc.no⟩
  by_cases h1:d=1;rw[Vd (by omega),cond_true,tail];exact aPB (λh=>by omega);rw[Kx (by omega),cond_false,TA,hc,TC,aGZ];by_cases h2:c=48;have e2:(c == 48)=true:=by rw[h2];rfl
  rw[e2,cond_true,tail (λ_ s16=>some ((⟨4,s16,(k:Int)⟩:Tk),false)) (λs17=>some ((⟨3,s17,(k:Int)⟩:Tk),false))];have h3:t.head?=some 48/\1 < d:=⟨by rw[hh,h2],by omega⟩
  have hf:IS t=(0,0):=by unfold IS;simp only[hd,bbC,if_false];rw[hde,if_pos h3]
  rw[hf];split<;>exact⟨_,rfl,Mc.no⟩
  have e2:(c == 48)=false:=beq_false_of_ne h2;rw[e2,cond_false,tail];exact aPB (λh=>by rw[hh] at h;exact h2 (bbJ h.1))
omit hs in
theorem sX{p:UInt8->Bool}{v:Tk×Bool}{B:Nat}{b:Int->Option (Lp Int Unit (Tk×Bool))}(hB:B<=s.data.toList.length)(hb:∀(i:Nat) c,i < B->s.data.toList[i]?=some c->b (i:Int)=if p c then some (.nx ((i+1:Nat):Int)) else some (.rt v))(he:b (B:Int)=some (.ex ())) :
   ∀(n i:Nat),i+n=B->CT b (n+1) (i:Int)=some (if ((s.data.toList.drop i).take n).all p then .inl () else .inr v):=by
 intro n
 induction n with
 |zero=>
  intro i hi;rw[show i=B by omega];show(b (B:Int)).bind _=_;rw[he];rfl
 |succ n ih=>
  intro i hi;obtain⟨c,hc⟩:∃c,s.data.toList[i]?=some c:=⟨_,atS (by omega)⟩;show(b (i:Int)).bind _=_;rw[hb i c (by omega) hc];rcases Mu s.data.toList i with ⟨h1,h2⟩ | ⟨c',h1,h2,h3⟩
  omega;rw[hc] at h2;cases h2;rw[h3,beA,bfK];cases hp:p c;rfl;rw[bgX];exact ih (i+1) (by omega)
omit hs in
theorem uU{m:Nat}(hm:∀c,cin m c=true->cin 30 c=true)(t:List UInt8):(Bb m t=Bb 30 t)↔(t.take (Bb 30 t)).all (cin m)=true:=by
 induction t with
 |nil=>simp[YE]
 |cons c t ih=>
  rw[En,En];by_cases hc:cin 30 c=true;rw[if_pos hc,bfH 1 (Bb 30 t),beA,bfK];by_cases hcm:cin m c=true;rw[if_pos hcm,hcm,bgX,<- ih];omega;rw[if_neg hcm,bhT.2 hcm,Bool.false_and];simp;rw[if_neg hc,if_neg (λh=>hc (hm c h))];simp
omit hs in
theorem aFZ(t:List UInt8)(h:∀c∈t,cin 30 c=true):t.all (cin 26)=t.all (λc=>!cin 4 c):=by induction t with|nil=>rfl|cons c t ih=>rw[bfK,bfK,akJ,h c (by simp),ih (λx hx=>h x (by simp[hx]))];rfl
omit hs in
theorem aiB(m:Nat)(t:List UInt8):∀c∈t.take (Bb m t),cin m c=true:=by
 induction t with
 |nil=>intro c hc;simp at hc
 |cons x t ih=>
  intro c hc;rw[En] at hc;by_cases hx:cin m x=true;rw[if_pos hx,bfH,beA] at hc;rcases bbG.1 hc with rfl | hc
  exact hx;exact ih c hc;rw[if_neg hx] at hc;simp at hc
theorem aKX{k:Nat}(hk:k < s.data.toList.length)(h2:I7 2 (s.data.toList.drop k)=true):∃x,Ov s (k:Int)=some x/\Mc (Bi (s.data.toList.drop k)) (s.data.toList.drop k) k x:=by
 unfold Ov Bi;rw[if_pos h2,aDT hs (by omega),TC];generalize hw:Bb 30 (s.data.toList.drop k)=w at *;have hwl:w<=s.data.toList.length - k:=by rw[<- hw,<- aUZ];exact MU 30 _
 rw[D0 (sX (s:=s) (p:=λc=>!cin 4 c) (v:=((⟨0,VE,0⟩:Tk),false)) (B:=k+w) (b:=λx=>ML s ((k+w:Nat):Int) x) (by omega) (λi c hi hc=>?_) ?_ w k rfl),TC]
 ·have GC:(Bb 26 (s.data.toList.drop k)=w)↔((s.data.toList.drop k).take w).all (λc=>!cin 4 c)=true:=by
   rw[<- aFZ _ (λc hc=>by rw[<- hw] at hc;exact aiB 30 _ c hc),<- hw];exact uU (m:=26) (λc hc=>by rw[akJ,aUR] at hc;exact hc.1) _
  cases ha:((s.data.toList.drop k).take w).all (λc=>!cin 4 c) with
  |false=>
   rw[ha] at GC;rw[if_neg (show ¬(false=true) by simp),if_neg (show ¬(w<=16/\Bb 26 (s.data.toList.drop k)=w) from λh=>by cases GC.1 h.2)];exact⟨_,rfl,Mc.no⟩
  |true=>
   rw[ha] at GC;rw[if_pos rfl];dsimp only[GF];rw[RA (by omega) (by omega),TC,Ii (by omega),show((k+w:Nat):Int) - (k:Int)=(w:Int) by omega,show k+w - k=w by omega];by_cases h16:w<=16;rw[eA (by omega),if_pos ⟨h16,GC.2 rfl⟩];exact⟨_,rfl,Mc.yes (by decide)⟩;rw[W9 (by omega),if_neg (λh=>h16 h.1)];exact⟨_,rfl,Mc.no⟩
 unfold ML;rw[EA (by omega)];rfl;unfold ML;rw[F5 (by omega),TA,hc];dsimp only[cond,bbZ];rw[oO,BS (by omega)];cases cin 4 c<;>rfl
theorem aRX{k:Nat}(hk:k < s.data.toList.length)(h2:I7 2 (s.data.toList.drop k)=false)(h4:I7 4 (s.data.toList.drop k)=true):∃x,P7 s (k:Int)=some x/\Mc (Bi (s.data.toList.drop k)) (s.data.toList.drop k) k x:=by
 unfold P7 Bi;rw[if_neg (by rw[h2];simp),if_pos h4,aDT hs (by omega),TC];generalize hw:Bb 30 (s.data.toList.drop k)=w at *;have hwl:w<=s.data.toList.length - k:=by rw[<- hw,<- aUZ];exact MU 30 _
 rw[D0 (sX (s:=s) (p:=λc=>cin 4 c) (v:=((⟨0,VE,0⟩:Tk),false)) (B:=k+w) (b:=λx=>Ot s ((k+w:Nat):Int) x) (by omega) (λi c hi hc=>?_) ?_ w k rfl),TC]
 ·have GC:(Bb 4 (s.data.toList.drop k)=w)↔((s.data.toList.drop k).take w).all (λc=>cin 4 c)=true:=by
   rw[<- hw];exact uU (m:=4) (λc hc=>by rw[akK,hc];simp) _
  cases ha:((s.data.toList.drop k).take w).all (λc=>cin 4 c) with
  |false=>
   rw[ha] at GC;rw[if_neg (show ¬(false=true) by simp),if_neg (show ¬(w=3/\Bb 4 (s.data.toList.drop k)=w) from λh=>by cases GC.1 h.2)];exact⟨_,rfl,Mc.no⟩
  |true=>
   rw[ha] at GC;rw[if_pos rfl];dsimp only[GF];rw[RA (by omega) (by omega),TC,Ii (by omega),show((k+w:Nat):Int) - (k:Int)=(w:Int) by omega,show k+w - k=w by omega];by_cases h3:w=3;rw[Vd (by omega),if_pos ⟨h3,GC.2 rfl⟩];exact⟨_,rfl,Mc.yes (by decide)⟩;rw[Kx (by omega),if_neg (λh=>h3 h.1)];exact⟨_,rfl,Mc.no⟩
 unfold Ot;rw[EA (by omega)];rfl;unfold Ot;rw[F5 (by omega),TA,hc];dsimp only[cond,bbZ];rw[oO,BS (by omega)];cases cin 4 c<;>rfl
omit hs in
theorem aqF{y t:List UInt8}(h:y.isPrefixOf t=true):t.take y.length=y:=by rw[NC] at h;exact eq_of_beq h
theorem aKY{k:Nat}(hk:k<=s.data.toList.length):∀(ys:List ByteArray)(i:Nat),(∀y∈ys,y.data.toList.length<=100000)->∃r,Bu (λi y x=>Po s (k:Int) i y) (λx=>()) ys i ()=some r /\
 ((r=.inl ()/\(RB (s.data.toList.drop k) (ys.map λy=>y.data.toList)).1=0)\/∃x,r=.inr x/\Mc (RB (s.data.toList.drop k) (ys.map λy=>y.data.toList)) (s.data.toList.drop k) k x):=by
 intro ys
 induction ys with
 |nil=>intro i _;exact⟨.inl (),rfl,.inl ⟨rfl,rfl⟩⟩
 |cons y ys ih=>
  intro i hy;rw[Bu,List.map_cons];unfold Po RB;rw[tY hs hk (hy y (by simp)),TC];cases hp:y.data.toList.isPrefixOf (s.data.toList.drop k) with
  |true=>
   refine⟨_,rfl,.inr ⟨_,rfl,?_⟩⟩;rw[if_pos rfl];have:=Mc.yes (q:=6) (n:=y.data.toList.length) (by decide) (t:=s.data.toList.drop k) (k:=k);rw[aqF hp] at this;exact this
  |false=>
   rw[if_neg (by simp)];exact ih (i+1) (λz hz=>hy z (by simp[hz]))
theorem ayI{k:Nat}(hk:k < s.data.toList.length):∃x,MM s (k:Int)=some x/\Mc (Bi (s.data.toList.drop k)) (s.data.toList.drop k) k x:=by
 obtain⟨c,hc⟩:∃c,s.data.toList[k]?=some c:=⟨_,atS hk⟩
 have hB:∀m,I7 m (s.data.toList.drop k)=cin m c:=by
  intro m;rcases Mu s.data.toList k with ⟨h1,h2⟩ | ⟨c',h1,h2,h3⟩
  omega;rw[hc] at h2;cases h2;rw[h3];rfl
 unfold MM;rw[TA,hc,TC,oN,TC];cases h8:cin 8 c with
 |true=>
  obtain⟨x,h1,h2⟩:=ahE hs hk (by rw[hB];exact h8);obtain⟨e2,e4⟩:=aGS c h8
  have:Bi (s.data.toList.drop k)=IS (s.data.toList.drop k):=by unfold Bi;rw[hB,hB,hB,e2,e4,h8];rfl
  dsimp only[cond];rw[h1,this];exact⟨x,rfl,h2⟩
 |false=>
  dsimp only[cond];rw[ayH,TC];cases h2:cin 2 c with
  |true=>
   obtain⟨x,e1,e2⟩:=aKX hs hk (by rw[hB];exact h2);dsimp only;rw[e1];exact⟨x,rfl,e2⟩
  |false=>
   dsimp only;rw[oO,TC];cases h4:cin 4 c with
   |true=>
    obtain⟨x,e1,e2⟩:=aRX hs hk (by rw[hB];exact h2) (by rw[hB];exact h4);dsimp only;rw[e1];exact⟨x,rfl,e2⟩
   |false=>
    have:Bi (s.data.toList.drop k)=RB (s.data.toList.drop k) F3:=by unfold Bi;rw[hB,hB,hB,h2,h4,h8];rfl
    obtain⟨r,e1,e2⟩:=aKY hs (k:=k) (by omega) [JV,JU,Jo,Mz,Ns,QK,Ro,Em,Sf,CK,Mh,Pl,ahD,zE,eU,VW,ZG] 0 (by decide);have e3:(([JV,JU,Jo,Mz,Ns,QK,Ro,Em,Sf,CK,Mh,Pl,ahD,zE,eU,VW,ZG]:List ByteArray).map λy=>y.data.toList)=F3:=rfl;rw[e3] at e2;rw[this];dsimp only;unfold NP;rw[TC,bbQ,AZ (by decide),e1,TC];rcases e2 with ⟨rfl,e2⟩ | ⟨x,rfl,e2⟩
    exact⟨_,rfl,⟨λh=>(by cases h),λ_=>e2⟩⟩;exact⟨x,rfl,e2⟩
end
theorem apY(s:List UInt8)(k:Nat)(pre:List LexS.Tok)(h:k < s.length)(hp:pre.length=2000):FZ pre (FV s k)=([],2,k):=by by_cases hz:(Bi (s.drop k)).1=0;rw[Uf s k h hz,FZ,if_pos hp];rw[Ug s k h hz,FZ,if_pos hp]
theorem axX(s:List UInt8)(k:Nat)(pre:List LexS.Tok)(h:k < s.length)(hp:¬pre.length=2000)(hz:(Bi (s.drop k)).1=0):FZ pre (FV s k)=([],61,k):=by rw[Uf s k h hz,FZ,if_neg hp,if_pos rfl]
theorem axZ(s:List UInt8)(k:Nat)(pre:List LexS.Tok)(h:k < s.length)(hp:¬pre.length=2000)(hz:(Bi (s.drop k)).1≠0):FZ pre (FV s k)=FZ (pre++[((Bi (s.drop k)).1,(s.drop k).take (Bi (s.drop k)).2,k)]) (FV s (k+(Bi (s.drop k)).2+IH (s.drop (k+(Bi (s.drop k)).2)))):=by rw[Ug s k h hz,FZ,if_neg hp,if_neg hz]
theorem axY(s:List UInt8)(k:Nat)(pre:List LexS.Tok)(h:s.length<=k):FZ pre (FV s k)=(pre,0,0):=by rw[Zu s k h,FZ]
def aRF(x:List LexS.Tok×Nat×Nat):List Tk×Int×Int:=(x.1.map J6,(x.2.1:Int),(x.2.2:Int))
theorem aqJ{s:ByteArray}(hs:s.data.toList.length<=6000):∀(j k:Nat)(pre:List LexS.Tok),s.data.toList.length - k<=j->k<=s.data.toList.length->pre.length<=2000->∃r:List Tk⊕(List Tk×Int×Int),CT (λx:List Tk×Int=>CM s x.1 x.2) (j+1) (pre.map J6,(k:Int))=some r /\
 GF (λ(o:List Tk)=>some (o,(0:Int),(0:Int))) (λv=>some v) r=some (aRF (FZ pre (FV s.data.toList k))):=by
 have fin:∀(j k:Nat)(pre:List LexS.Tok),s.data.toList.length<=k->∃r:List Tk⊕(List Tk×Int×Int),CT (λx:List Tk×Int=>CM s x.1 x.2) (j+1) (pre.map J6,(k:Int))=some r /\
  GF (λ(o:List Tk)=>some (o,(0:Int),(0:Int))) (λv=>some v) r=some (aRF (FZ pre (FV s.data.toList k))):=by
  intro j k pre h;refine⟨.inl (pre.map J6),?_,?_⟩;show(CM s (pre.map J6) (k:Int)).bind _=_;unfold CM;rw[EA (by omega)];rfl;rw[axY _ _ _ h];rfl
 intro j
 induction j with
 |zero=>intro k pre hk hl hp;exact fin 0 k pre (by omega)
 |succ j ih=>
  intro k pre hk hl hp;rcases bdS k s.data.toList.length with h | h
  rotate_left;exact fin _ k pre h
  have go:∀{y:Lp (List Tk×Int) (List Tk) (List Tk×Int×Int)},CM s (pre.map J6) (k:Int)=some y->CT (λx:List Tk×Int=>CM s x.1 x.2) (j+1+1) (pre.map J6,(k:Int))=OU (CT (λx:List Tk×Int=>CM s x.1 x.2) (j+1)) y:=by intro y hy;show(CM s (pre.map J6) (k:Int)).bind _=_;rw[hy];rfl
  by_cases hf:pre.length=2000
  have:CM s (pre.map J6) (k:Int)=some (.rt ([],2,(k:Int))):=by unfold CM;rw[F5 (by omega),bcQ,Vd (by omega)];rfl
  refine⟨.inr ([],2,(k:Int)),(go this).trans rfl,?_⟩;rw[apY _ _ _ h hf];rfl;obtain⟨x,h1,h2,h3⟩:=ayI (s:=s) (by omega) h;cases hx:x.2 with
  |false=>
   have:CM s (pre.map J6) (k:Int)=some (.rt ([],61,(k:Int))):=by unfold CM;rw[F5 (by omega),bcQ,Kx (by omega),h1];dsimp only[cond,bbZ];rw[hx]
   refine⟨.inr ([],61,(k:Int)),(go this).trans rfl,?_⟩;rw[axX _ _ _ h hf (h3 hx)];rfl
  |true=>
   obtain⟨h4,h5⟩:=h2 hx;have hrp:=Xt _ h4;have hle:(s.data.toList.drop k).length=s.data.toList.length - k:=aUZ ..;generalize hn:(Bi (s.data.toList.drop k)).2=n at *;have hsk:=aW (s.data.toList.drop (k+n));rw[aUZ] at hsk
   have htl:x.1.text.data.toList.length=n:=by rw[h5];show((s.data.toList.drop k).take n).length=n;rw[bbT];omega
   have:CM s (pre.map J6) (k:Int)=some (.nx ((pre++[((Bi (s.data.toList.drop k)).1,(s.data.toList.drop k).take n,k)]).map J6,((k+n+IH (s.data.toList.drop (k+n)):Nat):Int))):=by unfold CM;rw[F5 (by omega),bcQ,Kx (by omega),h1];dsimp only[cond,bbZ];rw[hx];dsimp only;rw[htl,BS (by omega),show(k:Int)+(n:Int)=((k+n:Nat):Int) by omega,Ge (by omega),aqK (by omega) (by omega)];dsimp only;rw[h5,List.map_append];rfl
   obtain⟨r,e1,e2⟩:=ih (k+n+IH (s.data.toList.drop (k+n))) (pre++[((Bi (s.data.toList.drop k)).1,(s.data.toList.drop k).take n,k)]) (by omega) (by omega) (by simp only[cZ,bbK];omega);refine⟨r,(go this).trans e1,?_⟩;rw[e2,axZ _ _ _ h hf h4,hn]
theorem aqW(s:ByteArray):Lr s=Fy s:=by unfold Lr Fy NF;by_cases h:6000 < s.data.toList.length;rw[F5 (by omega),if_pos h];rfl;rw[EA (by omega),if_neg h];dsimp only[cond];have h0:=aqK (s:=s) (k:=0) (by omega) (bcJ _);rw[show((0:Nat):Int)=0 from rfl,bbQ,aUU] at h0;have:=aW s.data.toList;obtain⟨r,e1,e2⟩:=aqJ (s:=s) (by omega) s.data.toList.length (IH s.data.toList) [] (by omega) (by omega) (by simp);rw[List.map_nil] at e1;rw[h0,TC,lZ,D0 e1,TC];exact e2
theorem adL(s:ByteArray):Lr s=some (Fj s,(NE s:Int),(axA s:Int)):=aqW s
end Mo
end Go.Proofs.YtkcimienkafhmaaGreatDoor
namespace Go.Proofs.YtkcimienkafhmaaGreatDoor
open AI Go
namespace Mo
mutual
def S8:Nd->Nat
 |⟨_,_,_,_,_,_,_,Cg,kids,_⟩=>1+Cg.ps.length+SM kids
def SM:List Nd->Nat
 |[]=>0
 |k::ks=>S8 k+SM ks
end
mutual
def aED:∀n:Nd,Ds n<=S8 n
 |⟨_,_,_,_,_,_,_,Cg,kids,_⟩=>by
  have:=asN kids;simp only[Ds,S8];omega
def asN:∀l:List Nd,H9 l<=SM l
 |[]=>aHT _
 |k::ks=>by
  have h1:=aED k;have h2:=asN ks;simp only[H9,SM];omega
end
section
variable {α β:Type}{c:Nat}{f:α->Nat}{g:β->Nat}
def SU(c:Nat)(f:α->Nat)(m:Rd α):Prop:=∀⦃l:List Tk⦄ ⦃a:α⦄ ⦃s:List Tk⦄,m l=some (.inl a,s)->f a+s.length<=l.length+c
def BB{m:Rd α}{K:α->Rd β}(h1:SU c f m)(h2:∀a,SU (f a) g (K a)):SU c g (Cu m K):=by
 intro l b s h;rcases OP h with ⟨a,s',e1,e2⟩ | ⟨d,_,h⟩
 have a1:=h1 e1;have a2:=h2 a e2;omega;cases h
def DY{a:α}(h:f a<=c):SU c f (GZ a):=by intro l b s e;obtain⟨e1,rfl⟩:=Pp e;cases e1;omega
def Jp{e p:Int}:SU c f (Pn e p):=by intro l b s h;obtain⟨h,_⟩:=Q6 h;cases h
def NU{X:Option β}{K:β->Rd α}(h:∀b,X=some b->SU c f (K b)):SU c f (Oo X K):=by intro l a s e;obtain⟨b,hb,e⟩:=M8 e;exact h b hb e
def fU{en:Int}{K:Tk->Rd α}(h:∀t,SU c f (K t)):SU c f (iV en K):=by intro l a s e;cases l with|nil=>cases e|cons t l=>exact h t e
def T9{K:Rd α}(h:SU (c+1) f K):SU c f (aV K):=by intro l a s e;cases l with|nil=>cases e|cons t l=>have:=h (l:=l) e;simp only[amN];omega
def B7{b:Bool}{A B:Rd α}(h1:SU c f A)(h2:SU c f B):SU c f (cond b A B):=by cases b;exact h2;exact h1
def YH{x:ByteArray}{A B:Rd α}(h1:SU (c+1) f A)(h2:SU c f B):SU c f (Rr x A B):=by intro l a s e;unfold Rr at e;cases hx:Mk x l with|true=>rw[hx] at e;exact T9 h1 e|false=>rw[hx] at e;exact h2 e
def YG{n:Nat}{m:Rd α}(h:SU c f m):SU c f (Rq n m):=λ_ _ _ e=>h (TI e).2
def SU.le{c':Nat}{m:Rd α}(h:SU c f m)(hc:c<=c'):SU c' f m:=λ_ _ _ e=>by have:=h e;omega
end
section
variable {c:Nat}{en:Int}
def MV{f:Tk->Option Bool}:SU c (λ_=>c+1) (Qc en f):=fU λt=>NU λb _=>B7 (T9 (DY (aHT _))) Jp
def GM{x:ByteArray}:SU c (λ_=>c+1) (Ky en x):=MV
def lG:SU c (λ_=>c+1) (Uu en):=BB MV λt=>NU λn _=>DY (aHT _)
def Ry{least:Int}:SU c (λ_=>c+1) (QL en least):=BB lG λp=>B7 Jp (B7 Jp (DY (aHT _)))
def aY{least:Int}:SU c (λ_=>c+1) (YZ en least):=BB MV λt=>NU λd _=>B7 (B7 Jp (DY (aHT _))) Jp
def Hm(k:Int)(nm u:ByteArray)(n:Int)(ks:List Nd)(p:Int):S8 (FK k nm u n ks p)=1+SM ks:=by show 1+0+_=_;omega
def P9(n:Nd):SM [n]=S8 n:=by simp[SM]
def fW(l m:List Nd):SM (l++m)=SM l+SM m:=by induction l with|nil=>simp[SM]|cons a l ih=>simp only[bcP,SM,ih];omega
def azQ:SU c (λn=>S8 n+c) (rR en) :=
 BB GM λt=>BB Ry λn=>BB GM λ_=>BB aY λf=>
  YH (BB aY λu=>BB GM λ_=>BB aY λk=>DY (by show 1+0+SM []+c<=_;simp only[SM];omega)) (BB GM λ_=>BB aY λk=>DY (by show 1+0+SM []+c<=_;simp only[SM];omega))
def adT:SU c (λn=>S8 n+c) (Y0 en) :=
 fU λt=>T9 (BB MV λm=>BB GM λ_=>BB MV λu=>B7 (BB MV λr=>NU λn _=>BB GM λ_=>DY (by rw[Hm];simp only[SM];omega)) (BB GM λ_=>DY (by rw[Hm];simp only[SM];omega)))
def Vi:SU c (λn=>S8 n+c) (JK en):=BB Ry λp=>DY (by rw[Hm];simp only[SM];omega)
def azS{read:Rd Nd}(hr:∀c,SU c (λn=>S8 n+c) read):∀(q:Nat)(ns:List Nd)(c:Nat),SU (SM ns+c) (λr=>SM r+c) (TN read q ns):=by
 intro q
 induction q with
 |zero=>intro ns c l a s h;cases h
 |succ q ih=>
  intro ns c;refine YH (BB (hr _) λn=>YG ((ih (ns++[n]) c).le ?_)) (DY (aHT _));rw[fW,P9];omega
def adU{read:Rd Nd}(hr:∀c,SU c (λn=>S8 n+c) read):SU c (λr=>SM r+c) (Xa read) :=
 BB (hr c) λn l a s h=>by
  have:=azS hr _ [n] c h;rw[P9] at this;exact this
def fV:SU c (λ_=>c+1) (Wc en):=BB MV λt=>NU λd _=>B7 (B7 (DY (aHT _)) Jp) (DY (aHT _))
def azT:SU c (λ_=>c+1) (uR en):=BB MV λt=>B7 (DY (aHT _)) (DY (aHT _))
def lI{As a b:Int}:SU c (λ_=>c+1) (Xl en As a b):=BB azT λs=>BB Ry λm=>BB GM λ_=>BB Ry λd=>NU λg _=>NU λz _=>B7 Jp (DY (by omega))
def SU.imp{α:Type}{f f':α->Nat}{m:Rd α}(h:SU c f m)(hf:∀a,f' a<=f a):SU c f' m:=λ_ a _ e=>by have:=h e;have:=hf a;omega
def lH{As a:Int}:SU c (λ_=>c+1) (Ux en As a):=BB GM λ_=>YH (BB fV λa=>lI.imp λ_=>by omega) (BB fV λa=>lI.imp λ_=>by omega)
def asB{before:List Pt}{As:Int}:SU c (λ_=>c+1) (eO en before As):=BB fV λv=>B7 (B7 (lH.imp λ_=>by omega) Jp) (NU λq _=>B7 Jp (B7 Jp (lH.imp λ_=>by omega)))
def ahW:∀(q:Nat)(l:List Pt)(k:Int)(c:Nat),SU (l.length+c) (λr=>r.1.length+c) (Sd en q l k):=by
 intro q
 induction q with|zero=>intro l k c _ _ _ h;cases h|succ q ih=>intro l k c;exact BB asB λp=>YG (YH ((ih _ _ c).le (by simp only[cZ,bbK];omega)) (DY (by simp only[cZ,bbK];omega)))
def ahX{k p:Int}{c:Nat}:∀(l:List Pt)(acc:List Pc),SU (acc.length+l.length+c) (λr=>r.length+c) (Su k p l acc):=by
 intro l
 induction l with|nil=>intro acc;exact DY (by simp)|cons x l ih=>intro acc;exact NU λz _=>B7 Jp (B7 Jp (YG ((ih _).le (by simp only[cZ,amN,amO];omega))))
def afO{op:ByteArray}{l r x:Nd}(h:Bh op l r=some x):S8 x=1+S8 l+S8 r:=by
 unfold Bh at h;revert h;have e1:∀(nm:ByteArray)(a b:Nd)(p:Int),S8 (⟨16,nm,VE,0,0,0,0,⟨0,[]⟩,[a,b],p⟩:Nd)=1+S8 a+S8 b:=by intro nm a b p;simp only[S8,SM,amO];omega
 cases BE op.data.toList QK.data.toList;cases BE op.data.toList Mz.data.toList;intro h1;cases h1;exact e1 _ _ _ _;cases MA op QK Ns 1 with|none=>intro h1;cases h1|some y=>intro h1;cases h1;rw[e1];omega
 cases MA op QK Ns 1 with|none=>intro h1;cases h1|some y=>intro h1;cases h1;rw[e1];omega
def aEB{α:Type}{f:α->Nat}{yes:ByteArray->Rd α}{no:Rd α}(h1:∀x,SU (c+1) f (yes x))(h2:SU c f no):∀ops:List ByteArray,SU c f (opR yes no ops):=by
 intro ops
 induction ops with|nil=>exact h2|cons x ops ih=>exact YH (h1 x) ih
def uZ{sub:Rd Nd}(h:∀c,SU c (λn=>S8 n+c) sub)(op:ByteArray)(l:Nd):SU (S8 l+c+1) (λn=>S8 n+c) (T6 en sub op l) :=
 BB (B7 Vi (h _)) λr=>NU λx hx=>DY (by rw[afO hx];omega)
def arZ{ops:List ByteArray}{sub:Rd Nd}(h:∀c,SU c (λn=>S8 n+c) sub):∀(q:Nat)(l:Nd)(c:Nat),SU (S8 l+c) (λn=>S8 n+c) (Mq en ops sub q l):=by
 intro q
 induction q with|zero=>intro l c _ _ _ h;cases h|succ q ih=>intro l c;exact aEB (λx=>BB (uZ h x l) λb=>ih b c) (DY (aHT _)) ops
structure Siz(g:Ek->Rd Nd)(li:Rd (List Nd)):Prop where
 sg:∀e c,SU c (λn=>S8 n+c) (g e)
 sli:∀c,SU c (λr=>SM r+c) li
def azM:∀q:Nat,Siz (gP en q).1 (gP en q).2:=by
 intro q
 induction q with
 |zero=>
  constructor;intro e c _ _ _ h;cases h;intro c _ _ _ h;cases h
 |succ q A=>
  refine⟨λe c=>?_,λc=>adU (A.sg .ex)⟩;show SU c (λn=>S8 n+c) (XG en (gP en q).1 (gP en q).2 e);have lv:∀i,SU c (λn=>S8 n+c) (Qy en (gP en q).1 i):=λi=>BB (A.sg _ _) λN l a s h=>arZ (A.sg _) _ N c h;unfold XG;split;exact A.sg _ _
  ·intro l a s h
   unfold iS at h;cases hx:Mk UO l with
   |true=>
    rw[hx] at h;exact BB (g:=λn=>S8 n+c) GM (λt=>BB (A.sg _ _) λk=>DY (by rw[Hm,P9];omega)) h
   |false=>rw[hx] at h;exact A.sg _ _ h
  exact BB (A.sg _ _) λN=>aEB (λx=>uZ (A.sg _) x N) (DY (aHT _)) _;exact A.sg _ _;exact lv _;refine fU λt=>B7 (BB lG λn=>YH (DY (by rw[Hm];simp only[SM];omega)) (DY (by rw[Hm];simp only[SM];omega))) (B7 (T9 (BB MV λa=>NU λz _=>DY (by rw[Hm];simp only[SM];omega))) (NU λb _=>B7 (T9 (DY (by rw[Hm];simp only[SM];omega))) (A.sg _ _)));have one:∀(k:Int)(nm u:ByteArray)(n p:Int),SU c (λn=>S8 n+c) (aV (GZ (FK k nm u n [] p))):=λ_ _ _ _ _=>T9 (DY (by rw[Hm];simp only[SM];omega))
  exact B7 (one _ _ _ _ _) (B7 (one _ _ _ _ _) (B7 (T9 (BB Ry λp=>DY (by rw[Hm];simp only[SM];omega))) (B7 (one _ _ _ _ _) (B7 (one _ _ _ _ _) (B7 (one _ _ _ _ _) (B7 (one _ _ _ _ _) (B7 (A.sg _ _) (B7 (A.sg _ _) (B7 (A.sg _ _)
    (B7 (T9 (BB (A.sg _ _) λa=>BB GM λ_=>DY (by omega))) Jp))))))))))
  exact fU λt=>T9 (BB GM λ_=>BB (A.sg _ _) λa=>BB GM λ_=>BB (A.sli _) λl=>YG (BB GM λ_=>DY (by rw[Hm];simp only[SM];omega)));exact BB GM λt=>BB GM λ_=>BB (A.sg _ _) λa=>BB GM λ_=>BB (λl s u h=>(ahW _ [] _ (S8 a+(c+1+1)+1)).le (Nat.le_of_eq (aUU _)) h) λl=>BB GM λe=>YG (BB ((ahX l.1 [] (c:=S8 a+(c+1+1)+1+1)).le (by simp only[amO];omega)) λr=>DY (by show 1+r.length+SM [a]+c<=_;rw[P9];omega))
def aEA:SU c (λn=>S8 n+c) (S6 en):=λ_ _ _ h=>(azM _).sg .ex c h
def ahV(kind:Int):SU c (λn=>S8 n+c) (LC en (S6 en) kind) :=
 fU λt=>T9 (B7 (BB (adU λc=>Vi) λl=>BB GM λ_=>DY (by rw[Hm];omega)) (BB aEA λe=>BB GM λ_=>DY (by rw[Hm,P9];omega)))
def asA{mk:List Nd->Nd}(hm:∀l,S8 (mk l)=1+SM l):∀(q:Nat)(ns:List Nd)(un am:Bool)(c:Nat),SU (SM ns+c+1) (λn=>S8 n+c) (K6 en (S6 en) mk q ns un am):=by
 intro q
 induction q with
 |zero=>intro ns un am c _ _ _ h;cases h
 |succ q ih=>
  intro ns un am c
  have go:∀(kind:Int)(un' wQ:Bool),SU (SM ns+c+1) (λn=>S8 n+c) (Cu (LC en (S6 en) kind) λx=>Rq (ns.length+1) (K6 en (S6 en) mk q (ns++[x]) un' wQ)):=λkind un' wQ=>
   BB (ahV kind) λx=>YG ((ih (ns++[x]) un' wQ c).le (by rw[fW,P9];omega))
  exact fU λt=>B7 (go _ _ _) (B7 (B7 Jp (go _ _ _)) (B7 (B7 Jp (go _ _ _)) (B7 (B7 (T9 (DY (by rw[hm];omega))) Jp) Jp)))
def azR:SU c (λn=>S8 n+c) (W6 en (S6 en)) :=
 fU λt=>B7 adT (B7 adT (B7 (BB GM λt=>BB Ry λn=>BB GM λ_=>BB MV λm=>BB azQ λh=>BB GM λ_=>λl a s e=>by
  have:=asA (λl=>Hm _ _ _ _ _ _) _ [h] false false c e;rw[P9] at this;dsimp only at this ⊢;omega) Jp))
end
def atY(a b:Nat):aMM (a:Int) (b:Int)=((max a b:Nat):Int):=by unfold aMM;split<;>omega
def aGV:∀n:Nd,Ob n<=Ds n:=by
 intro n
 have key:∀(q:Nat)(n:Nd),Ds n<=q->Ob n<=Ds n:=by
  intro q
  induction q with
  |zero=>intro n h;rw[CS] at h;omega
  |succ q ih=>
   intro n h;rw[Qm,CS];have:vT n.kids<=H9 n.kids:=X8.2 λk hk=>bbM (ih k (by have:=Qa hk;omega)) (Fx hk);omega
 exact key _ n (aHT _)
def agT:∀(q:Nat)(n:Nd),Ds n<=q->Ds n<=1000000->C8 q n=some (((Ds n:Nat):Int),((Ob n:Nat):Int)):=by
 intro q
 induction q with
 |zero=>intro n h;have:=CS n;omega
 |succ q ih=>
  intro n hq hz;have hsz:=CS n;rw[C8,Mx];rw[show B6 n.kids.length=λy:Option ((Int×Int)⊕(Int×Int))=>y from funext λy=>if_pos (by have:=Kj n.kids;omega),bbQ]
  have key:∀(m:List Nd),(∀k∈m,k∈n.kids)->∀(i c d:Nat),c+H9 m<=1000000->Bu (ρ:=Int×Int) (λi y x=>Hh (C8 q) i y x.1 x.2) (λx=>(x.1,x.2)) m i ((c:Int),(d:Int))=some (.inl (((c+H9 m:Nat):Int),((max d (vT m):Nat):Int))):=by
   intro m
   induction m with
   |nil=>intro _ i c d _;simp[Bu,H9,vT]
   |cons a m ihm=>
    intro hm i c d hc;simp only[H9] at hc;have ha:=hm a (bbU ..);rw[Bu,Hh,ih a (by have:=Fx ha;omega) (by have:=Fx ha;omega),TC];dsimp only;rw[BS (by omega),atY];have:=ihm (λk hk=>hm k (bbP _ hk)) (i+1) (c+Ds a) (max d (Ob a)) (by omega);rw[TC];dsimp only[OU];rw[show(c:Int)+(Ds a:Int)=((c+Ds a:Nat):Int) by omega,this];simp only[H9,vT,bdW,Nat.max_assoc]
  have h1:=key n.kids (λ_ h=>h) 0 1 0 (by omega);have h1:Bu (ρ:=Int×Int) (λi y x=>Hh (C8 q) i y x.1 x.2) (λx=>(x.1,x.2)) n.kids 0 (1,0)=some (.inl (((1+H9 n.kids:Nat):Int),((max 0 (vT n.kids):Nat):Int))):=h1;rw[h1,TC];dsimp only[GF];have hd:=Qm n;have hd2:=aGV n;rw[BS (by omega),hsz,hd];congr 2;omega
def kO{n:Nd}(hz:Ds n<=1000000):DM n=some (if 2000 < Ds n\/40 < Ob n then (z0,[⟨2,0⟩]) else (n,[])):=by have:My n=some (((Ds n:Nat):Int),((Ob n:Nat):Int)):=NA (Ds n) λq hq=>agT q n hq hz;unfold DM;rw[this,TC];dsimp only;by_cases h1:2000 < Ds n;rw[F5 (by omega),if_pos (.inl h1)];rfl;rw[EA (by omega)];by_cases h2:40 < Ob n;rw[F5 (by omega),if_pos (.inr h2)];rfl;rw[EA (by omega),if_neg (by omega)];rfl
def axC(n:Nd):Nd×List Dg:=if 2000 < Ds n\/40 < Ob n then (z0,[⟨2,0⟩]) else (n,[])
def aMB{en:Int}:∀(q:Nat)(l:List Tk)(ks:List Nd)(ds:List Dg)(r:List Nd×List Dg),Gl l->l.length<=10000->XJ en q l ks ds=some r->SM r.1<=SM ks+l.length/\r.2.length<=max 20 ds.length:=by
 intro q
 induction q with
 |zero=>intro l ks ds r _ _ h;cases h
 |succ q ih=>
  intro l ks ds r hg hl h;cases l with
  |nil=>cases h;exact⟨by dsimp only;omega,by dsimp only;omega⟩
  |cons t l=>
   unfold XJ at h;cases hd:CV ((ds.length:Nat):Int) 20 with
   |false=>rw[hd] at h;cases h;exact⟨by dsimp only;omega,by dsimp only;omega⟩
   |true=>
    rw[hd] at h;dsimp only[cond] at h;have hd:=eG hd;split at h;cases h;rename_i n s hi;have a:=azR (c:=0) hi;obtain⟨⟨k,rfl⟩,_,_⟩:=Q9 hg hl hi;have b:=ih _ _ _ _ (hg.drop k) (by rw[aUZ];omega) h;rw[fW,P9] at b;exact⟨by dsimp only at a;omega,b.2⟩;rename_i d s hi;obtain⟨⟨k,rfl⟩,h2,_⟩:=Q9 hg hl hi;obtain⟨j,hj⟩:=Rx ((t::l).drop k);have hl2:l.length<=10000:=by simp only[amN] at hl;omega
    have b:=ih _ _ _ _ (by rw[hj];exact(hg.drop k).drop j) (by omega) h;simp only[cZ,bbK] at b;simp only[amN];exact⟨by omega,by omega⟩
def aGC(ks:List Nd):List Dg->Nd×List Dg
 |[]=>axC (L3 ks)
 |ds=>(z0,ds)
def acW{s:ByteArray}(h:NE s=0):∃ks ds,XJ ((s.data.toList.length:Nat):Int) ((Fj s).length+1) (Fj s) [] []=some (ks,ds)/\Ci s=some (aGC ks ds)/\H9 ks<=2000/\ds.length<=20:=by
 obtain⟨hg,hl⟩:=UC s;obtain⟨ks,ds,h1,h2⟩:=agZ h hg (by omega);have h3:=aMB _ _ _ _ _ hg (by omega) h1;have hw:=asN ks;simp only[SM,amO] at h3;refine⟨ks,ds,h1,?_,by omega,by omega⟩;rw[h2];cases ds with
 |nil=>
  rw[EA (by simp)];exact kO (by have:=CS (L3 ks);simp only[L3] at this;rw[show Ds (L3 ks)=1+H9 ks from rfl];omega)
 |cons d ds=>
  rw[F5 (by simp only[amN];omega)];rfl
def aGB:(Nd⊕Dg)×List Tk->Nd×List Dg
 |(.inl n,[])=>axC n
 |(.inl _,t::_)=>(z0,[⟨71,t.BH⟩])
 |(.inr d,_)=>(z0,[d])
def ahA{s:ByteArray}(h:NE s≠0):CY s=some (z0,[⟨(NE s:Int),(axA s:Int)⟩]):=by unfold CY Fy;rw[TC];dsimp only;rw[Kx (by unfold NE at h;omega)];rfl
def acY{s:ByteArray}(h:NE s=0):∃r l,S6 ((s.data.toList.length:Nat):Int) (Fj s)=some (r,l)/\CY s=some (aGB (r,l)):=by
 obtain⟨hg,hl⟩:=UC s;obtain⟨r,l,h1,_⟩:=aEG (en:=((s.data.toList.length:Nat):Int)) (n:=(Fj s).length) (by omega) hg (aHT _);refine⟨r,l,h1,?_⟩;obtain⟨k',a1,a2,rfl,a4⟩:=abO (by omega) hg (bcJ _) (by rw[bbQ];exact h1);unfold CY Fy;rw[TC];dsimp only;rw[Vd (by unfold NE at h;omega)];dsimp only[cond];have a4:FA ⟨biX J6 (LexS.NF s.data.toList).fst,0,((s.data.toList.length:Nat):Int)⟩=some (r,(k':Int)):=a4;unfold KW JL;rw[a4,TC];cases r with
 |inr d=>rfl
 |inl n=>
  dsimp only[aHR];rcases JF (Fj s) a2 with ⟨h2,h3⟩ | ⟨t,h2,h3,h4⟩
  rw[h3,EA (by show((biX J6 (LexS.NF s.data.toList).fst).length:Int)<=_;unfold Fj at h2;omega)];dsimp only[cond,bbZ,asW]
  have hz:Ds n<=1000000:=by have:=aEA (c:=0) h1;have:=aED n;dsimp only at *;omega
  have:=kO hz;rw[this];rfl;rw[h4,F5 (by show _ < ((biX J6 (LexS.NF s.data.toList).fst).length:Int);unfold Fj at h2;omega)];dsimp only[cond]
  have hgt:FI (biX J6 (LexS.NF s.data.toList).fst) (k':Int)=some t:=by unfold FI;rw[if_pos (by omega),aUW];exact h3
  rw[hgt];rfl
end Mo
end Go.Proofs.YtkcimienkafhmaaGreatDoor
namespace Go.Proofs.YtkcimienkafhmaaGreatDoor
open AI Go LexS
namespace Mo
structure Gy(t:Tk):Prop where
 name:t.kind=1->(1<=t.text.data.toList.length/\t.text.data.toList.length<=16)/\(∃b,t.text.data.toList[0]?=some b/\97<=b.toNat/\b.toNat<=122)/\∀c∈t.text.data.toList,lW c
 cur:t.kind=2->iG t.text
def aM:∀n < 128,((Nx n &&& 26)≠0->(97<=n/\n<=122)\/(48<=n/\n<=57)\/n=95)/\((Nx n &&& 4)≠0->65<=n/\n<=90)/\((Nx n &&& 2)≠0->97<=n/\n<=122):=by decide
def aL{m:Nat}{c:UInt8}(h:cin m c=true):c.toNat < 128/\(Nx c.toNat &&& m)≠0:=by
 unfold cin at h;refine⟨?_,by simpa using h⟩
 by_cases hc:c.toNat < 128;exact hc;rw[mU _ (by omega)] at h;simp at h
def uV(m:Nat)(t:List UInt8):∀c∈t.take (Bb m t),cin m c=true:=by
 unfold Bb
 induction t with
 |nil=>intro c hc;cases hc
 |cons x t ih=>
  intro c hc;rw[beM] at hc;split at hc;rename_i hx;rw[amN,beA] at hc;rcases bbG.1 hc with rfl | hc
  exact hx;exact ih c hc;cases hc
def aMA{t:List UInt8}{o:Nat}:Gy (J6 ((Bi t).1,t.take (Bi t).2,o)):=by
 by_cases c2:I7 2 t=true;by_cases hc:Bb 30 t<=16/\Bb 26 t=Bb 30 t;have hr:Bi t=(1,Bb 30 t):=by unfold Bi;rw[if_pos c2,if_pos hc]
 rw[hr];refine⟨λ_=>?_,λh=>?_⟩;obtain⟨c,u,rfl,aPR⟩:=W4 c2
 have hp:1<=Bb 26 (c::u):=by
  rw[En,if_pos (by
   obtain⟨a,b⟩:=aL aPR;have:=(aM _ a).2.2 b;unfold cin;have:∀n < 128,(Nx n &&& 2)≠0->((Nx n &&& 26) != 0)=true:=by decide
   exact this _ a b)]
  omega
 have hsp:=fS 30 (c::u);dsimp only[J6];refine⟨⟨by rw[bbT];omega,by rw[bbT];omega⟩,⟨c,?_,?_⟩,λx hx=>?_⟩;rw[List.getElem?_take_of_lt (by omega)];rfl;obtain⟨a,b⟩:=aL aPR;exact(aM _ a).2.2 b;rw[<- hc.2] at hx;obtain⟨a,b⟩:=aL (uV 26 _ x hx);exact(aM _ a).1 b;have:(((1:Nat)):Int)=2:=h;omega;have hr:Bi t=(0,0):=by unfold Bi;rw[if_pos c2,if_neg hc]
 rw[hr];exact⟨λh=>by have:(((0:Nat)):Int)=1:=h;omega,λh=>by have:(((0:Nat)):Int)=2:=h;omega⟩;by_cases c4:I7 4 t=true;by_cases hc:Bb 30 t=3/\Bb 4 t=Bb 30 t;have hr:Bi t=(2,Bb 30 t):=by unfold Bi;rw[if_neg c2,if_pos c4,if_pos hc]
 rw[hr];refine⟨λh=>by have:(((2:Nat)):Int)=1:=h;omega,λ_=>?_⟩;have hsp:=fS 30 t;unfold iG;dsimp only[J6];refine⟨by rw[bbT];omega,λx hx=>?_⟩;rw[<- hc.2] at hx;obtain⟨a,b⟩:=aL (uV 4 _ x hx);exact(aM _ a).2.1 b;have hr:Bi t=(0,0):=by unfold Bi;rw[if_neg c2,if_pos c4,if_neg hc]
 rw[hr];exact⟨λh=>by have:(((0:Nat)):Int)=1:=h;omega,λh=>by have:(((0:Nat)):Int)=2:=h;omega⟩
 have:(Bi t).1≠1/\(Bi t).1≠2:=by
  unfold Bi;rw[if_neg c2,if_neg c4];split
  ·unfold IS
   dsimp only
   repeat' split
   all_goals simp
  rcases YI t F3 with h | h<;>omega
 exact⟨λh=>absurd (show(((Bi t).1:Nat):Int)=1 from h) (by omega),λh=>absurd (show(((Bi t).1:Nat):Int)=2 from h) (by omega)⟩
def Gx(l:List Tk):Prop:=∀t∈l,Gd t/\Gy t
def adY(s:ByteArray):Gx (Fj s):=by
 intro t ht;refine⟨(UC s).1 t ht,?_⟩;unfold Fj NF at ht;split at ht;cases ht;obtain⟨a,b⟩:=eB (EZ s.data.toList) [] (bcJ _);obtain⟨x,hx,rfl⟩:=bfI.1 ht;rcases b x hx with hx | ⟨hx,h0⟩
 cases hx;obtain⟨u,o',h1,h2,rfl⟩:=lY _ _ _ x hx h0;exact aMA
section
variable {α β:Type}{P:α->Prop}{P2:β->Prop}
def Va(P:α->Prop)(m:Rd α):Prop:=∀⦃l:List Tk⦄ ⦃a:α⦄ ⦃s:List Tk⦄,Gx l->m l=some (.inl a,s)->P a/\Gx s
def BC{m:Rd α}{K:α->Rd β}(h1:Va P m)(h2:∀a,P a->Va P2 (K a)):Va P2 (Cu m K):=by
 intro l b s hg h;rcases OP h with ⟨a,s',e1,e2⟩ | ⟨d,_,h⟩
 obtain⟨pa,hg⟩:=h1 hg e1;exact h2 a pa hg e2;cases h
def DH{a:α}(h:P a):Va P (GZ a):=by intro l b s hg e;obtain⟨e1,rfl⟩:=Pp e;cases e1;exact⟨h,hg⟩
def Jr{e p:Int}:Va P (Pn e p):=by intro l b s _ h;obtain⟨h,_⟩:=Q6 h;cases h
def PA{X:Option β}{K:β->Rd α}(h:∀b,X=some b->Va P (K b)):Va P (Oo X K):=by intro l a s hg e;obtain⟨b,hb,e⟩:=M8 e;exact h b hb hg e
def vJ{en:Int}{K:Tk->Rd α}(h:∀t,Gd t/\Gy t->Va P (K t)):Va P (iV en K):=by intro l a s hg e;cases l with|nil=>cases e|cons t l=>exact h t (hg t (bbU ..)) hg e
def RD{K:Rd α}(h:Va P K):Va P (aV K):=by intro l a s hg e;cases l with|nil=>cases e|cons t l=>exact h (λt ht=>hg t (bbP _ ht)) e
def Du{b:Bool}{A B:Rd α}(h1:b=true->Va P A)(h2:b=false->Va P B):Va P (cond b A B):=by cases b;exact h2 rfl;exact h1 rfl
def YQ{x:ByteArray}{A B:Rd α}(h1:Va P A)(h2:Va P B):Va P (Rr x A B):=by intro l a s hg e;unfold Rr at e;cases hx:Mk x l with|true=>rw[hx] at e;exact RD h1 hg e|false=>rw[hx] at e;exact h2 hg e
def YP{n:Nat}{m:Rd α}(h:Va P m):Va P (Rq n m):=λ_ _ _ hg e=>h hg (TI e).2
def Va.imp{P':α->Prop}{m:Rd α}(h:Va P m)(f:∀a,P a->P' a):Va P' m:=λ_ a _ hg e=>⟨f a (h hg e).1,(h hg e).2⟩
end
section
variable {en:Int}
def MX{f:Tk->Option Bool}:Va (λt=>(Gd t/\Gy t)/\f t=some true) (Qc en f) :=
 vJ λt ht=>PA λb hb=>Du (λh=>RD (DH ⟨ht,by rw[hb,h]⟩)) λ_=>Jr
def GN{x:ByteArray}:Va TT (Ky en x):=MX.imp λ_ _=>trivial
def aS{t:Tk}(hg:Gd t/\Gy t)(h:CO t=some true):KB t.text:=by
 unfold CO at h;rw[aoC] at h;cases hk:Bg t.kind 1 with
 |false=>rw[hk] at h;cases h
 |true=>
  rw[hk] at h;obtain⟨h1,h2,h3⟩:=hg.2.name (DS hk);refine⟨h1,h2,λhm=>?_,h3⟩;rw[Ch.2 hm] at h;cases h
def adZ{t:Tk}(hg:Gd t/\Gy t)(h:F0 t=some true):KP t.text:=by
 unfold F0 at h;cases h1:BE t.text.data.toList Ey.data.toList with
 |true=>exact .inl (PY h1)
 |false=>
  rw[h1] at h;cases h2:BE t.text.data.toList CW.data.toList with
  |true=>exact .inr (.inl (PY h2))
  |false=>
   rw[h2] at h;cases h3:BE t.text.data.toList Dw.data.toList with
   |true=>exact .inr (.inr (.inl (PY h3)))
   |false=>
    rw[h3] at h;exact .inr (.inr (.inr (hg.2.cur (DS (R2 h).symm))))
def lS:Va (λp:Int×Int=>0<=p.1/\p.1<=999999999999) (Uu en):=by refine BC MX λt ht=>PA λn hn=>DH ?_;obtain⟨z,h1,h2⟩:=ht.1.1.num (DS (R2 ht.2).symm);rw[h1] at hn;cases hn;exact h2
def RE(least:Int):Va (λp:Int×Int=>least<=p.1/\p.1<=1000000) (QL en least) :=
 BC lS λp _=>Du (λ_=>Jr) λh1=>Du (λ_=>Jr) λh2=>DH ⟨Lh h1,Lh h2⟩
def bD(least:Int):Va (λd:Int=>least<=d/\0<=d/\d<=36524) (YZ en least):=by refine BC MX λt ht=>PA λd hd=>Du (λh=>Du (λ_=>Jr) λh3=>DH ⟨Lh h3,?_⟩) λ_=>Jr;obtain⟨d',e,h1,h2⟩:=ht.1.1.date (DS (R2 ht.2).symm);rw[h1] at hd;cases hd;exact h2 (DS h)
def aAY:Va N0 (rR en):=by
 have mk:∀{n f u k p:Int},(0<=n/\n<=1000000)->(0<=f/\f<=36524)->(f < u/\u<=36525)->(0<=k/\k<=36524)->N0 ⟨5,bE,bE,n,f,u,k,⟨0,[]⟩,[],p⟩ :=
  λh1 h2 h3 h4=>⟨rfl,h1,rfl,h2,h3,h4,rfl,rfl,rfl,rfl,rfl,rfl,rfl,rfl⟩
 exact BC GN λt _=>BC (RE _) λn hn=>BC GN λ_ _=>BC (bD _) λf hf=>
  YQ (BC (bD _) λu hu=>BC GN λ_ _=>BC (bD _) λk hk=>DH (mk hn hf.2 ⟨by have:=hu.1;rw[BS (by have:=hf.2;omega)] at this;omega,by have:=hu.2;omega⟩ hk.2))
    (BC GN λ_ _=>BC (bD _) λk hk=>DH (mk hn hf.2 ⟨by have:=hf.2;omega,by omega⟩ hk.2))
def ayZ{x:ByteArray}{n:Int}(h:Ed x=some n):0<=n/\n<=4:=by
 unfold Ed at h;revert h;cases BE WO.data.toList x.data.toList;cases BE PX.data.toList x.data.toList;cases BE Tz.data.toList x.data.toList;cases BE Zc.data.toList x.data.toList<;>(intro h;cases h;decide)
 intro h;cases h;decide;intro h;cases h;decide;intro h;cases h;decide
def aeG:Va GD (Y0 en):=by
 refine vJ λt _=>RD (BC MX λm hm=>BC GN λ_ _=>BC MX λu hu=>Du (λ_=>BC MX λr hr=>PA λn hn=>BC GN λ_ _=>DH (.inr (.inl ?_))) λ_=>BC GN λ_ _=>DH (.inl ?_));have h1:=ayZ hn
 have h2:0 < n:=by have h:=hr.2;unfold B0 at h;rw[hn] at h;exact eG (by cases hq:CV 0 n with | true=>rfl | false=>(simp only[TC,hq,cond_false] at h;cases h))
 exact⟨rfl,aS hm.1 hm.2,adZ hu.1 hu.2,(by omega:1<=n),h1.2,rfl,rfl,rfl,rfl,rfl,rfl,rfl,rfl,rfl⟩;exact⟨rfl,aS hm.1 hm.2,adZ hu.1 hu.2,rfl,rfl,rfl,rfl,rfl,rfl,rfl,rfl,rfl⟩
end
section
variable {en:Int}
def gJ:Va (λp:Int×Int=>0<=p.1/\p.1<=999999999999) (Wc en):=by
 refine BC MX λt ht=>PA λc hc=>?_
 have hk:t.kind=3\/t.kind=4:=by
  have h:=ht.2;unfold Dq at h;cases h4:Bg t.kind 4 with
  |true=>exact .inr (DS h4)
  |false=>
   rw[h4] at h;exact .inl (DS (R2 h).symm)
 obtain⟨z,h1,h2⟩:=ht.1.1.M3 hk;rw[h1] at hc;cases hc;exact Du (λ_=>Du (λ_=>DH h2) λ_=>Jr) λ_=>DH h2
def aBB:Va (λs:Int=>s=1\/s=-1) (uR en):=BC MX λt _=>Du (λ_=>DH (.inr rfl)) λ_=>DH (.inl rfl)
def aJU{As d g z:Int}(hc:1<=As/\As<=1000000)(hd:1<=d/\d<=1000000)(h1:alT As d=some g)(h2:Oc As g=some z):1<=CE z d:=by
 obtain⟨g',e1,vV,⟨c1,h3⟩,_⟩:=alV hc.1 (show(0:Int)<=d by omega);rw[h1] at e1;cases e1;rw[cG (by omega) (by omega) (by omega)] at h2;cases h2;have hq:As / g=c1:=by rw[h3,biC _ (by omega)]
 have hc1:1<=c1:=by by_cases h:1<=c1;exact h;have:=bgF (show 0<=g by omega) (show c1<=0 by omega);omega
 have nI:c1<=1000000:=by have:=bdD vV (show 0<=c1 by omega);omega
 rw[hq];have a1:=blF nI hd.2 (by omega) (by omega);have a2:=blG (show 0<=c1 by omega) (show 0<=d by omega);rw[FU (by omega)];have:=bdD hc1 (show 0<=d by omega);omega
def PtP(before:List Pt)(x:Pt×Int):Prop:=(0<=x.1.fr/\x.1.fr<=999999999999)/\(before=[]->x.1.fr=0)/\(∀q,before[before.length - 1]?=some q->q.fr < x.1.fr)/\before.length<=63/\(-999999999999<=x.1.BH/\x.1.BH<=999999999999)/\1<=x.2/\x.2<=1000000
def lU{As:Int}(hc:1<=As/\As<=1000000)(from_ a:Int):Va (λx:Pt×Int=>x.1.fr=from_/\x.1.BH=a/\1<=x.2/\x.2<=1000000) (Xl en As from_ a) :=
 BC aBB λs hs=>BC (RE _) λm hm=>BC GN λ_ _=>BC (RE _) λd hd=>PA λg hg=>PA λz hz=>Du (λ_=>Jr) λh5=>DH ⟨rfl,rfl,aJU hc hd hg hz,Lh h5⟩
def lT{As:Int}(hc:1<=As/\As<=1000000)(from_:Int):Va (λx:Pt×Int=>x.1.fr=from_/\(-999999999999<=x.1.BH/\x.1.BH<=999999999999)/\1<=x.2/\x.2<=1000000) (Ux en As from_) :=
 BC GN λ_ _=>YQ (BC gJ λa ha=>(lU hc _ _).imp λx hx=>⟨hx.1,by rw[hx.2.1,FU (by omega)];omega,hx.2.2⟩) (BC gJ λa ha=>(lU hc _ _).imp λx hx=>⟨hx.1,by rw[hx.2.1,FU (by omega)];omega,hx.2.2⟩)
def atK(before:List Pt){As:Int}(hc:1<=As/\As<=1000000):Va (PtP before) (eO en before As):=by refine BC gJ λv hv=>Du (λh=>Du (λh0=>(lT hc _).imp λx hx=>?_) λ_=>Jr) λh=>PA λq hq=>Du (λ_=>Jr) λh1=>Du (λ_=>Jr) λh2=>(lT hc _).imp λx hx=>?_;have hn:before=[]:=bbD (by have:=DS h;omega);have h0:=DS h0;exact⟨by rw[hx.1];omega,λ_=>by rw[hx.1];exact h0,λq hq=>(by rw[hn] at hq;cases hq),by rw[hn];exact bcJ _,hx.2⟩;have h1:=aoF h1;have h2:=aoF h2;have hne:before≠[]:=λe=>cK h (by rw[e];rfl);exact⟨by rw[hx.1];omega,λe=>absurd e hne,λq' wB=>(by rw[hq] at wB;cases wB;rw[hx.1];exact h1),by omega,hx.2⟩
def PLP(ps:List Pt):Prop:=(∀x,ps[0]?=some x->x.fr=0)/\∀(i:Nat) p,ps[i]?=some p->(0<=p.fr/\p.fr<=999999999999)/\(∀q,0 < i->ps[i - 1]?=some q->q.fr < p.fr)/\-999999999999<=p.BH/\p.BH<=999999999999
def adB{ps:List Pt}{x:Pt×Int}(h:PLP ps)(hx:PtP ps x):PLP (ps++[x.1]):=by
 obtain⟨a1,a2,a3,a4,a5,a6⟩:=hx
 have get:∀{i:Nat}{p:Pt},(ps++[x.1])[i]?=some p->(i < ps.length/\ps[i]?=some p)\/(i=ps.length/\p=x.1):=by intro i p hp;by_cases hi:i < ps.length;rw[List.getElem?_append_left hi] at hp;exact .inl ⟨hi,hp⟩;rw[List.getElem?_append_right (by omega)] at hp;cases hj:i - ps.length with|zero=>rw[hj] at hp;cases hp;exact .inr ⟨by omega,rfl⟩|succ j=>rw[hj] at hp;cases hp
 refine⟨λy hy=>?_,λi p hp=>?_⟩;rcases get hy with ⟨h1,h2⟩ | ⟨h1,rfl⟩
 exact h.1 y h2;exact a2 (bbD h1.symm);rcases get hp with ⟨h1,h2⟩ | ⟨rfl,rfl⟩
 obtain⟨b1,b2,b3⟩:=h.2 i p h2;refine⟨b1,λq hq hJ=>?_,b3⟩;rcases get hJ with ⟨_,h4⟩ | ⟨h3,_⟩
 exact b2 q hq h4;omega;refine⟨a1,λq hq hJ=>?_,a5⟩;rcases get hJ with ⟨_,h4⟩ | ⟨h3,_⟩
 exact a3 q h4;omega
def aiL:∀(q:Nat)(ps:List Pt)(c:Int),1<=c/\c<=1000000->PLP ps->Va (λr:List Pt×Int=>PLP r.1/\(1<=r.1.length/\r.1.length<=64)/\1<=r.2/\r.2<=1000000) (Sd en q ps c):=by
 intro q
 induction q with
 |zero=>intro ps c _ _ _ _ _ _ h;cases h
 |succ q ih=>
  intro ps c hc hp;refine BC (atK ps hc) λx hx=>YP (YQ (ih _ _ hx.2.2.2.2.2 (adB hp hx)) (DH ⟨adB hp hx,?_,hx.2.2.2.2.2⟩));have:=hx.2.2.2.1;simp only[cZ,bbK];omega
def aiM{c p:Int}:∀(ps:List Pt)(acc:List Pc),Va (λr:List Pc=>∃out,r=acc++out/\out.length=ps.length/\∀(i:Nat) x,ps[i]?=some x->∃sl,out[i]?=some ⟨x.fr,CE x.BH c,sl⟩/\-1000000<=sl/\sl<=1000000) (Su c p ps acc):=by
 intro ps
 induction ps with
 |nil=>intro acc;exact DH ⟨[],by simp,rfl,λi x h=>by cases h⟩
 |cons y ps ih=>
  intro acc;refine PA λz _=>Du (λ_=>Jr) λh1=>Du (λ_=>Jr) λh2=>YP ((ih _).imp λr hr=>?_);obtain⟨out,rfl,h3,h4⟩:=hr;refine⟨⟨y.fr,CE y.BH c,CE y.num z⟩::out,by simp,by simp[h3],λi x hx=>?_⟩;cases i with|zero=>cases hx;exact⟨_,rfl,Lh h2,Lh h1⟩|succ i=>exact h4 i x hx
def aLY{ps:List Pt}{c:Int}{r:List Pc}(h:PLP ps)(hl:1<=ps.length/\ps.length<=64)(hc:1<=c/\c<=1000000)(h2:r.length=ps.length)(h3:∀(i:Nat) x,ps[i]?=some x->∃sl,r[i]?=some ⟨x.fr,CE x.BH c,sl⟩/\-1000000<=sl/\sl<=1000000):Z6 ⟨c,r⟩:=by
 have back:∀{i:Nat}{y:Pc},r[i]?=some y->∃x sl,ps[i]?=some x/\y=⟨x.fr,CE x.BH c,sl⟩/\-1000000<=sl/\sl<=1000000:=by
  intro i y hy;have hi:i < ps.length:=by have:=(aHS.1 hy).1;omega
  obtain⟨sl,e,b⟩:=h3 i ps[i] (atS hi);rw[hy] at e;exact⟨ps[i],sl,atS hi,bbJ e,b⟩
 refine⟨hc,by rw[h2];exact hl,λy hy=>?_,λi y hy=>?_⟩;obtain⟨x,sl,h4,rfl,_⟩:=back hy;exact h.1 x h4;obtain⟨x,sl,h4,rfl,h5,h6⟩:=back hy;obtain⟨a1,a2,a3,a4⟩:=h.2 i x h4;have m1:=bdD a4 (show 0<=c by omega);have m2:=bdD a3 (show 0<=c by omega);have e:CE x.BH c=x.BH*c:=FU (by omega);refine⟨a1.2,λq hq hJ=>?_,?_,?_,?_,h6,h5⟩;obtain⟨x',sl',h7,rfl,_⟩:=back hJ;exact a2 x' hq h7;dsimp only;unfold WN KS;rw[if_neg (by omega),e,Int.mul_tmod_left];dsimp only;rw[e,FU (by omega)];exact m1;dsimp only;rw[e,FU (by omega)];exact m2
def aBA{P:Nd->Prop}{read:Rd Nd}(hr:Va P read):∀(q:Nat)(ns:List Nd),ns≠[]->(∀n∈ns,P n)->Va (λr:List Nd=>r≠[]/\∀n∈r,P n) (TN read q ns):=by
 intro q
 induction q with
 |zero=>intro ns _ _ _ _ _ _ h;cases h
 |succ q ih=>
  intro ns h0 h;refine YQ (BC hr λn hn=>YP (ih _ (by simp) λy hy=>?_)) (DH ⟨h0,h⟩);rcases bcE.1 hy with hy | hy
  exact h y hy;rw[bbV.1 hy];exact hn
def aeH{P:Nd->Prop}{read:Rd Nd}(hr:Va P read):Va (λr:List Nd=>r≠[]/\∀n∈r,P n) (Xa read) :=
 BC hr λn hn _ _ _ hg h=>aBA hr _ [n] (by simp) (λy hy=>by rw[bbV.1 hy];exact hn) hg h
def aKH{n p:Int}(h:1<=n/\n<=1000000):He (FK 11 bE CW n [] p)/\Qz (FK 11 bE CW n [] p) :=
 ⟨(Ga _).2 ⟨.inl ⟨rfl,.inr (.inl rfl),by show 0<=n;omega,by show n<=_;omega,λe=>absurd e (show CW≠Ey by decide),rfl,rfl,rfl,rfl,rfl,rfl,rfl,rfl,rfl⟩,λk hk=>by cases hk⟩,rfl,rfl,h⟩
def Vk:Va (λn=>He n/\Qz n) (JK en):=BC (RE _) λp hp=>DH (aKH hp)
end
def opQ{nm:ByteArray}{a b:Nd}{p:Int}(ho:Ws nm)(ha:He a)(hb:He b)(hn:nm=CK->Qz b):He ⟨16,nm,VE,0,0,0,0,⟨0,[]⟩,[a,b],p⟩:=by
 refine(Ga _).2 ⟨.inr (.inr (.inr (.inr (.inr (.inl ⟨rfl,⟨rfl,rfl,rfl,rfl,rfl,rfl,rfl,rfl⟩,rfl,ho,λe k hk=>?_⟩))))),λk hk=>?_⟩;cases hk;exact hn e;simp only[bbG,bdO,or_false] at hk;rcases hk with rfl | rfl
 exact ha;exact hb
def XZ:List ByteArray:=[kZ,QY,JV,JU,Ns,Jo,QK,Mz,Ro,Em,Sf,CK,jQ]
def acU(i:Nat):∀x∈opsOf i,x∈XZ:=by
 unfold opsOf;split<;>(intro x hx;simp only[bbG,bdO,or_false] at hx)<;>(try (unfold XZ;simp only[bbG]))
 exact .inl hx;exact .inr (.inl hx);rcases hx with h | h | h | h | h | h<;>simp[h]
 rcases hx with h | h<;>simp[h]
 rcases hx with h | h | h<;>simp[h]
def afN{op:ByteArray}{l r x:Nd}(ho:op∈XZ)(hl:He l)(hr:He r)(hn:op=CK->Qz r)(h:Bh op l r=some x):He x:=by
 unfold Bh at h;revert h;cases h1:BE op.data.toList QK.data.toList with
 |true=>
  rw[PY h1,show MA QK QK Ns 1=some Ns from rfl];intro h;cases h;exact opQ (by unfold Ws;simp) hr hl λe=>absurd e (by decide)
 |false=>
  cases h2:BE op.data.toList Mz.data.toList with
  |true=>
   rw[PY h2,show MA Mz QK Ns 1=some Jo from rfl];intro h;cases h;exact opQ (by unfold Ws;simp) hr hl λe=>absurd e (by decide)
  |false=>
   intro h;cases h;refine opQ ?_ hl hr hn;unfold XZ at ho;simp only[bbG,bdO,or_false] at ho;have n1:=alC h1;have n2:=alC h2;unfold Ws;rcases ho with h | h | h | h | h | h | h | h | h | h | h | h | h
   all_goals first | exact absurd h n1 | exact absurd h n2 | simp[h]
section
variable {en:Int}
def aEJ{α:Type}{P:α->Prop}{yes:ByteArray->Rd α}{no:Rd α}(h2:Va P no):∀ops:List ByteArray,(∀x∈ops,Va P (yes x))->Va P (opR yes no ops):=by
 intro ops
 induction ops with|nil=>intro _;exact h2|cons x ops ih=>intro h;exact YQ (h x (bbU ..)) (ih λy hy=>h y (bbP _ hy))
def vK{sub:Rd Nd}(h:Va He sub){op:ByteArray}(ho:op∈XZ){l:Nd}(hl:He l):Va He (T6 en sub op l):=by refine BC (P:=λr=>He r/\(op=CK->Qz r)) (Du (λ_=>Vk.imp λn hn=>⟨hn.1,λ_=>hn.2⟩) λh1=>h.imp λn hn=>⟨hn,λe=>absurd e (alC h1)⟩) λr hr=>PA λx hx=>DH (afN ho hl hr.1 hr.2 hx)
def atI{ops:List ByteArray}(aVY:∀x∈ops,x∈XZ){sub:Rd Nd}(h:Va He sub):∀(q:Nat)(l:Nd),He l->Va He (Mq en ops sub q l):=by
 intro q
 induction q with|zero=>intro l _ _ _ _ _ h;cases h|succ q ih=>intro l hl;exact aEJ (DH hl) ops λx hx=>BC (vK h (aVY x hx) hl) λb hb=>ih b hb
def aLA{nm:ByteArray}{p:Int}(h:KB nm):He (FK 12 nm bE 0 [] p):=(Ga _).2 ⟨.inr (.inl ⟨rfl,h,rfl,rfl,rfl,rfl,rfl,rfl,rfl,rfl,rfl⟩),λk hk=>by cases hk⟩
def eC{u:ByteArray}{n p:Int}(h:KP u)(h0:0<=n/\n<=999999999999)(h1:u=Ey->n<=1):He (FK 11 bE u n [] p):=(Ga _).2 ⟨.inl ⟨rfl,h,h0.1,h0.2,h1,rfl,rfl,rfl,rfl,rfl,rfl,rfl,rfl,rfl⟩,λk hk=>by cases hk⟩
def oH{a:Nd}(h:He a):∀k∈[a],He k:=λk hk=>by rw[bbV.1 hk];exact h
def aKE{k:Nd}{p:Int}(hk:He k):He (FK 15 bE bE 0 [k] p):=(Ga _).2 ⟨.inr (.inr (.inr (.inr (.inl ⟨rfl,rfl,rfl,rfl,rfl,rfl,rfl,rfl,rfl,rfl⟩)))),oH hk⟩
def aGD{n p:Int}(h:1<=n/\n<=1000000):He (FK 13 bE bE n [] p):=(Ga _).2 ⟨.inr (.inr (.inl ⟨rfl,h,rfl,rfl,rfl,rfl,rfl,rfl,rfl,rfl,rfl⟩)),λk hk=>(by cases hk)⟩
def ayE:PLP []:=⟨λx h=>(by cases h),λi p h=>(by cases h)⟩
def auW{nm:ByteArray}{a:Nd}{l:List Nd}{p:Int}(hn:nm=Jl\/nm=EP)(ha:He a)(hl:l≠[]/\∀n∈l,He n):He (FK 17 nm bE 0 (a::l) p):=by
 refine(Ga _).2 ⟨.inr (.inr (.inr (.inr (.inr (.inr (.inl ⟨rfl,hn,⟨rfl,rfl,rfl,rfl,rfl,rfl,rfl,rfl⟩,?_⟩)))))),λk hk=>?_⟩;have:=bjI.2 hl.1;show 2<=(a::l).length;rw[amN];omega;rcases bbG.1 hk with rfl | hk
 exact ha;exact hl.2 k hk
structure VaE(g:Ek->Rd Nd)(li:Rd (List Nd)):Prop where
 vg:∀e,e≠.ca->(∀t,e≠.wd t)->Va He (g e)
 vw:∀⦃t:Tk⦄ ⦃l s:List Tk⦄ ⦃a:Nd⦄,Gx (t::l)->g (.wd t) (t::l)=some (.inl a,s)->He a/\Gx s
 vc:∀⦃t:Tk⦄ ⦃l s:List Tk⦄ ⦃a:Nd⦄,Gx (t::l)->(t.text=Jl\/t.text=EP)->g .ca (t::l)=some (.inl a,s)->He a/\Gx s
 vli:Va (λr:List Nd=>r≠[]/\∀n∈r,He n) li
def avD{u:ByteArray}(h:iG u):u≠Ey:=by rintro rfl;have:=h.1;revert this;decide
def aMH:∀q:Nat,VaE (gP en q).1 (gP en q).2:=by
 intro q
 induction q with
 |zero=>
  constructor;intro e _ _ _ _ _ _ h;cases h;intro _ _ _ _ _ h;cases h;intro _ _ _ _ _ _ h;cases h;intro _ _ _ _ h;cases h
 |succ q A=>
  have lv:∀i,Va He (Qy en (gP en q).1 i):=λi=>BC (A.vg _ (by simp) (by simp)) λN hN _ _ _ hg h=>atI (acU i) (A.vg _ (by simp) (by simp)) _ N hN hg h;refine⟨λe hc hw=>?_,λt l s a hg h=>?_,λt l s a hg ht h=>?_,aeH (A.vg .ex (by simp) (by simp))⟩
  ·show Va He (XG en (gP en q).1 (gP en q).2 e)
   unfold XG;split;exact A.vg _ (by simp) (by simp)
   ·intro l a s hg h
    unfold iS at h;cases hx:Mk UO l with
    |true=>
     rw[hx] at h;exact BC (P2:=He) GN (λt _=>BC (A.vg _ (by simp) (by simp)) λk hk=>DH (aKE hk)) hg h
    |false=>rw[hx] at h;exact A.vg _ (by simp) (by simp) hg h
   exact BC (A.vg _ (by simp) (by simp)) λN hN=>aEJ (DH hN) _ λx hx=>vK (A.vg _ (by simp) (by simp)) (acU 3 x hx) hN;exact A.vg _ (by simp) (by simp);exact lv _
   ·intro l a s hg h
    cases l with
    |nil=>cases h
    |cons t l=>
     have ht:=hg t (bbU ..);unfold abG iV at h;dsimp only at h;cases hk3:Bg t.kind 3 with
     |true=>
      rw[hk3] at h;exact BC (P2:=He) lS (λn hn=>YQ (DH (eC (.inr (.inr (.inl rfl))) hn λe=>absurd e (by decide))) (DH (eC (.inr (.inl rfl)) hn λe=>absurd e (by decide)))) hg h
     |false=>
      rw[hk3] at h;dsimp only[cond] at h;cases hk:Bg t.kind 2 with
      |true=>
       rw[hk] at h;refine RD (P:=He) (BC MX λa ha=>PA λz hz=>DH ?_) hg h;obtain⟨z',h1,h2⟩:=ha.1.1.M3 (.inr (DS (R2 ha.2).symm));rw[h1] at hz;cases hz;have hc:=ht.2.cur (DS hk);exact eC (.inr (.inr (.inr hc))) h2 λe=>absurd e (avD hc)
      |false=>
       rw[hk] at h;obtain⟨b,hb,h⟩:=M8 h;cases b with|true=>exact RD (P:=He) (DH (aLA (aS ht hb))) hg h|false=>exact A.vw hg h
   rename_i t;exact absurd rfl (hw t);exact absurd rfl hc;refine BC GN λt _=>BC GN λ_ _=>BC (A.vg _ (by simp) (by simp)) λa ha=>BC GN λ_ _=>BC (λ_ _ _ hg h=>aiL _ [] 1 (by decide) ayE hg h) λl hl=>BC GN λe _=>YP (BC (aiM _ _) λr hr=>DH ?_);obtain⟨out,e,h3,h4⟩:=hr;rw[bcY] at e;subst e;exact(Ga _).2 ⟨.inr (.inr (.inr (.inr (.inr (.inr (.inr ⟨rfl,⟨rfl,rfl,rfl,rfl,rfl,rfl,rfl,rfl⟩,aLY hl.1 hl.2.1 hl.2.2 h3 h4,rfl⟩)))))),oH ha⟩
  ·have h:gM en (gP en q).1 t (t::l)=some (.inl a,s):=h
   have dt:X9 t.text->Va He (qR t):=λh=>RD (DH ((Ga _).2 ⟨.inr (.inr (.inr (.inl ⟨rfl,h,rfl,rfl,rfl,rfl,rfl,rfl,rfl,rfl,rfl⟩))),λk hk=>by cases hk⟩))
   have key:(t.text=Jl\/t.text=EP)/\(gP en q).1 .ca (t::l)=some (.inl a,s)\/(He a/\Gx s):=by unfold gM at h;revert h;cases BE t.text.data.toList SN.data.toList;rotate_left;exact λh=>.inr (RD (P:=He) (DH (eC (.inl rfl) (by decide) λ_=>by decide)) hg h);cases BE t.text.data.toList NB.data.toList;rotate_left;exact λh=>.inr (RD (P:=He) (DH (eC (.inl rfl) (by decide) λ_=>by decide)) hg h);cases BE t.text.data.toList bU.data.toList;rotate_left;exact λh=>.inr (RD (P:=He) (BC (RE _) λp hp=>DH (aGD hp)) hg h);cases h1:BE t.text.data.toList Hw.data.toList;rotate_left;exact λh=>.inr (dt (.inl (PY h1)) hg h);cases h1:BE t.text.data.toList WK.data.toList;rotate_left;exact λh=>.inr (dt (.inr (.inl (PY h1))) hg h);cases h1:BE t.text.data.toList LN.data.toList;rotate_left;exact λh=>.inr (dt (.inr (.inr (.inl (PY h1)))) hg h);cases h1:BE t.text.data.toList Qi.data.toList;rotate_left;exact λh=>.inr (dt (.inr (.inr (.inr (PY h1)))) hg h);cases h1:BE t.text.data.toList Jl.data.toList;rotate_left;exact λh=>.inl ⟨.inl (PY h1),h⟩;cases h1:BE t.text.data.toList EP.data.toList;rotate_left;exact λh=>.inl ⟨.inr (PY h1),h⟩;cases BE t.text.data.toList MD.data.toList;rotate_left;exact λh=>.inr (A.vg _ (by simp) (by simp) hg h);cases BE t.text.data.toList Mh.data.toList;rotate_left;exact λh=>.inr (RD (P:=He) (BC (A.vg _ (by simp) (by simp)) λa ha=>BC GN λ_ _=>DH ha) hg h);exact λh=>.inr (Jr (P:=He) hg h)
   rcases key with ⟨h1,h2⟩ | h1
   exact A.vc hg h1 h2;exact h1
  have h:qI en (gP en q).1 (gP en q).2 (t::l)=some (.inl a,s):=h;unfold qI iV at h;dsimp only at h;exact RD (P:=He) (BC GN λ_ _=>BC (A.vg _ (by simp) (by simp)) λa ha=>BC GN λ_ _=>BC A.vli λl hl=>YP (BC GN λ_ _=>DH (auW ht ha hl))) hg h
def aEI:Va He (S6 en):=λ_ _ _ hg h=>(aMH _).vg .ex (by simp) (by simp) hg h
def aiK{kind:Int}:Va (λn=>Cn n/\n.kind=kind) (LC en (S6 en) kind):=by refine vJ λt _=>RD (Du (λhk=>BC (aeH Vk) λl hl=>BC GN λ_ _=>DH ⟨⟨⟨rfl,rfl,rfl,rfl,rfl,rfl,rfl,rfl⟩,λ_=>⟨?_,hl.2⟩,λh=>absurd (DS hk) h⟩,rfl⟩) λhk=>BC aEI λe he=>BC GN λ_ _=>DH ⟨⟨⟨rfl,rfl,rfl,rfl,rfl,rfl,rfl,rfl⟩,λh=>absurd h (cK hk),λ_=>⟨rfl,oH he⟩⟩,rfl⟩);exact bjI.2 hl.1
def qO(k:Int)(l m:List Nd):De k (l++m)=De k l+De k m:=by induction l with|nil=>simp[De]|cons a l ih=>simp only[bcP,De,ih];omega
def atJ{t1 t4:Tk}{n2:Int}(h4:KB t4.text)(hn:1<=n2/\n2<=1000000){h:Nd}(hh:N0 h):∀(q:Nat)(cs:List Nd)(un am:Bool),kinds cs->(∀k∈cs,Cn k)->De 8 cs=(if am then 1 else 0)->De 7 cs=(if un then 1 else 0) ->
 Va GD (K6 en (S6 en) (λl=>FK 4 t4.text bE n2 l t1.BH) q (h::cs) un am):=by
 intro q
 induction q with
 |zero=>intro cs un am _ _ _ _ _ _ _ _ h;cases h
 |succ q ih=>
  intro cs un am k1 k2 k3 k4
  have go:∀(kind:Int)(un' wQ:Bool),(6<=kind/\kind<=8)->(if am then 1 else 0)+(if kind=8 then 1 else 0)=(if wQ then 1 else 0)->(if un then 1 else 0)+(if kind=7 then 1 else 0)=(if un' then 1 else 0) ->
   Va GD (Cu (LC en (S6 en) kind) λc=>Rq ((h::cs).length+1) (K6 en (S6 en) (λl=>FK 4 t4.text bE n2 l t1.BH) q (h::cs++[c]) un' wQ)):=by
   intro kind un' wQ hk h8 h7;refine BC aiK λc hc=>YP (ih (cs++[c]) un' wQ ?_ ?_ ?_ ?_);intro y hy;rcases bcE.1 hy with hy | hy
   exact k1 y hy;rw[bbV.1 hy,hc.2];exact hk;intro y hy;rcases bcE.1 hy with hy | hy
   exact k2 y hy;rw[bbV.1 hy];exact hc.1;rw[qO,k3];simp only[De,hc.2];omega;rw[qO,k4];simp only[De,hc.2];omega
  refine vJ λt _=>Du (λ_=>go 6 un am (by decide) (by simp) (by simp)) λ_=>Du (λ_=>Du (λ_=>Jr) λhu=>go 7 true am (by decide) (by simp) (by simp[hu])) λ_=>
   Du (λ_=>Du (λ_=>Jr) λha=>go 8 un true (by decide) (by simp[ha]) (by simp)) λ_=>Du (λ_=>Du (λha=>RD (DH (.inr (.inr ⟨rfl,hn,h4,⟨rfl,rfl,rfl,rfl,rfl,rfl,rfl,rfl⟩,h,cs,rfl,k1,by rw[k3,ha];rfl,?_,hh,k2⟩)))) λ_=>Jr) λ_=>Jr
  rw[k4];split<;>omega
def aAZ:Va GD (W6 en (S6 en)):=by
 refine vJ λt _=>Du (λ_=>aeG) λ_=>Du (λ_=>aeG) λ_=>Du (λ_=>?_) λ_=>Jr
 exact BC GN λt _=>BC (RE _) λn hn=>BC GN λ_ _=>BC MX λm hm=>BC aAY λh hh=>BC GN λ_ _ _ _ _ hg e=>
  atJ (aS hm.1 hm.2) hn hh _ [] false false (λk hk=>by cases hk) (λk hk=>by cases hk) rfl rfl hg e
end
end Mo
end Go.Proofs.YtkcimienkafhmaaGreatDoor
namespace Go.Proofs.YtkcimienkafhmaaGreatDoor
open AI Go
namespace Mo
set_option maxHeartbeats 4000000
def aKD{p:Nd->Prop}(h:∀n,(∀k∈n.kids,p k)->p n):∀(m:Nat)(n:Nd),Ds n<=m->p n:=by
 intro m
 induction m with
 |zero=>intro n h;have:=CS n;omega
 |succ m ih=>
  intro n hn;have hsz:=CS n;exact h n λk hk=>ih k (by have:=Fx hk;omega)
def aKC{p:Nd->Prop}(h:∀n,(∀k∈n.kids,p k)->p n)(n:Nd):p n:=aKD h (Ds n) n (aHT _)
end Mo
end Go.Proofs.YtkcimienkafhmaaGreatDoor
namespace Go.Proofs.YtkcimienkafhmaaGreatDoor
open AI Go LexS
namespace Mo
set_option maxHeartbeats 4000000
def Ao:List (LexS.Tok×List UInt8)->List UInt8
 |[]=>[]
 |p::r=>p.1.2.1++(p.2++Ao r)
def CP(ps qs:List (LexS.Tok×List UInt8)):Ao (ps++qs)=Ao ps++Ao qs:=by induction ps with|nil=>rfl|cons p ps ih=>simp[Ao,ih]
def opK(x:ByteArray):Nat:=if x=kZ\/x=QY\/x=jQ then 1 else 6
abbrev Ti:=LexS.Tok×List UInt8
def axO(k:Nat)(d:List UInt8):Prop:=1<=d.length/\d.length<=k/\(∀c∈d,cin 8 c=true)/\(d.length=1\/d.head?≠some 48)
def aEL(x:LexS.Tok):Prop :=
 (x.1=1/\1<=x.2.1.length/\x.2.1.length<=16/\I7 2 x.2.1=true/\∀c∈x.2.1,cin 26 c=true) \/
 (x.1=2/\x.2.1.length=3/\∀c∈x.2.1,cin 4 c=true) \/
 (x.1=3/\axO 12 x.2.1) \/
 (x.1=4/\∃d a b,x.2.1=d++[46,a,b]/\axO 10 d/\cin 8 a=true/\cin 8 b=true) \/
 (x.1=5/\x.2.1.length=10/\Gb x.2.1=true) \/
 (x.1=6/\x.2.1∈F3)
def Dd(a b:ByteArray):(a++b).data.toList=a.data.toList++b.data.toList:=by simp
abbrev RL(i:Nat):UInt8:=UInt8.ofNat (48+i)
def avI:∀i:Fin 10,bkG (RL i.1)=some i.1/\(48<=(RL i.1).toNat/\(RL i.1).toNat<=57)/\cin 8 (RL i.1)=true/\(RL i.1=48->i.1=0):=by decide
def qV{i:Nat}(h:i < 10):bkG (RL i)=some i/\Tv (RL i)/\cin 8 (RL i)=true/\(RL i=48->i=0):=avI ⟨i,h⟩
abbrev Ql:=bjQ
def Ia{u:Nat}(h:u < 10):Ql u=[RL u]:=by rw[Ql,bjQ,dif_pos h]
def LD{u:Nat}(h:¬u < 10):Ql u=Ql (u / 10)++[RL (u % 10)]:=by rw[Ql,bjQ,dif_neg h]
def akU(u:Nat):∀c∈Ql u,Tv c/\cin 8 c=true:=by
 induction u using beW with
 |_ u ih=>
  by_cases h:u < 10;rw[Ia h];intro c hc;rw[bbV] at hc;subst hc;exact⟨(qV h).2.1,(qV h).2.2.1⟩;rw[LD h];intro c hc;rcases bcE.1 hc with hc | hc
  exact ih _ (by omega) c hc;rw[bbV] at hc;subst hc;have:=qV (Nat.mod_lt u (show 10 > 0 by omega));exact⟨this.2.1,this.2.2.1⟩
def mY(u:Nat):1<=(Ql u).length:=by by_cases h:u < 10;rw[Ia h];simp;rw[LD h];simp
def Ul:∀(k u:Nat),u < 10 ^ (k+1)->(Ql u).length<=k+1
 |0,u,h=>by rw[Ia (by simpa using h)];simp
 |k+1,u,h=>by
  by_cases h1:u < 10;rw[Ia h1];simp;rw[LD h1,cZ];have:=Ul k (u / 10) (by rw[blZ] at h;omega);simp only[bbK];omega
def akV(u:Nat):1<=u->(Ql u).head?≠some 48:=by
 induction u using beW with
 |_ u ih=>
  intro hu;by_cases h:u < 10;rw[Ia h];intro e;have:=(qV h).2.2.2 (by simpa using e)
  omega;rw[LD h];have hp:=mY (u / 10);have:=ih (u / 10) (by omega) (by omega);intro e;apply this;cases hd:Ql (u / 10) with|nil=>rw[hd] at hp;simp at hp|cons a l=>rw[hd] at e;exact e
def avH{k u:Nat}(h:u < 10 ^ (k+1)):axO (k+1) (Ql u):=by refine⟨mY u,Ul k u h,λc hc=>(akU u c hc).2,?_⟩;by_cases h1:u < 10;left;rw[Ia h1];rfl;right;exact akV u (by omega)
abbrev dP(n:Int):List UInt8:=Ql n.toNat
def acB{n:Int}(h:0<=n/\n<=999999999999):axO 12 (dP n):=avH (k:=11) (by omega)
def TG{n:Int}(h:0<=n/\n<=999999999999):Gc n=some ⟨(dP n).toArray⟩:=by unfold Gc Lib.itoa;rw[if_pos (by omega),if_neg (by omega)]
def aJL(n:Int):dP n≠[]:=λe=>by have:=mY n.toNat;unfold dP at e;rw[e] at this;simp at this
def aK(n:Int):List UInt8:=Ql (n.toNat / 100)++[46,RL (n.toNat % 100 / 10),RL (n.toNat % 10)]
def aqP{n:Int}(h:0<=n):KS n 100=((n.toNat % 100:Nat):Int):=by unfold KS;obtain⟨m,rfl⟩:=bcD h;exact(bjD m 100).symm
def zF{n:Int}(h:0<=n/\n<=999999999999):L7 n 100=((n.toNat / 100:Nat):Int):=by unfold L7;obtain⟨m,rfl⟩:=bcD h.1;have e:(Int.ofNat m).tdiv 100=((m / 100:Nat):Int):=(bjE m 100).symm;have h7:=L8 (n:=((m / 100:Nat):Int)) (by omega);rw[KR] at h7;rw[aUW];show beR.wrap ((Int.ofNat m).tdiv 100)=_;rw[e];exact h7
def seL(z:Int):List UInt8:=if z < 0 then 45::aK (-z) else aK z
def bG{a:Int}(h:-999999999999<=a/\a<=999999999999):pB a=-a:=by have h7:=L8 (n:=0 - a) (by omega);rw[KR] at h7;unfold pB;rw[h7];omega
def M9(l:List UInt8):(⟨l.toArray⟩:ByteArray).data.toList=l:=by simp
def Co{a b:ByteArray}(h:a.data.toList=b.data.toList):a=b:=ByteArray.ext (bbW h)
def akD{u:Nat}:(if u % 100 < 10 then 48::Ql (u % 100) else Ql (u % 100))=[RL (u % 100 / 10),RL (u % 10)]:=by by_cases h1:u % 100 < 10;rw[if_pos h1,Ia h1,show u % 100 / 10=0 by omega,show u % 100=u % 10 by omega];rfl;rw[if_neg h1,LD h1,Ia (by omega),show u % 100 % 10=u % 10 by omega];rfl
def VA{z:Int}(h:-999999999999<=z/\z<=999999999999):El z=some ⟨(seL z).toArray⟩:=by
 have k30:(Yp).data.toList=[48]:=rfl;have k2e:(Nr).data.toList=[46]:=rfl;have k2d:(Em).data.toList=[45]:=rfl;have k0:VE.data.toList=[]:=rfl
 have key:∀n:Int,0<=n/\n<=999999999999->Gc (KS n 100)=some ⟨(Ql (n.toNat % 100)).toArray⟩/\Gc (L7 n 100)=some ⟨(Ql (n.toNat / 100)).toArray⟩/\(Ql (n.toNat / 100)).length<=12/\(Ql (n.toNat % 100)).length=(if n.toNat % 100 < 10 then 1 else 2):=by intro n h;have hr:n.toNat % 100 < 100:=Nat.mod_lt _ (by omega);rw[aqP h.1,zF h,TG (by omega),TG (by omega)];unfold dP;rw[aUW,aUW];refine⟨rfl,rfl,Ul 11 _ (by omega),?_⟩;split;rename_i h1;rw[Ia h1];rfl;rename_i h1;rw[LD h1,Ia (by omega)];rfl
 unfold El seL;by_cases h0:z < 0
 ·obtain⟨a1,a2,a3,a4⟩:=key (-z) (by omega)
  rw[F5 h0,cond_true,if_pos h0,bG (by omega),a1,a2,TC,TC];have ht:=akD (u:=(-z).toNat);split at a4
  ·rename_i h1
   rw[if_pos h1] at ht;rw[F5 (by rw[M9,a4];decide),cond_true];simp (disch:=((try simp only[Dd,cZ,amN,amO,M9,k30,k2e,k2d]);omega)) only [AZ,TC]
   refine congrArg some (Co ?_);simp only[Dd,M9,k30,k2e,k2d,aK];rw[<- ht];simp
  ·rename_i h1
   rw[if_neg h1] at ht;rw[EA (by rw[M9,a4];decide),cond_false];simp (disch:=((try simp only[Dd,cZ,amN,amO,M9,k30,k2e,k2d]);omega)) only [AZ,TC]
   refine congrArg some (Co ?_);simp only[Dd,M9,k30,k2e,k2d,aK];rw[<- ht];simp
 ·obtain⟨a1,a2,a3,a4⟩:=key z (by omega)
  rw[EA (by omega),cond_false,if_neg h0,a1,a2,TC,TC];have ht:=akD (u:=z.toNat);split at a4
  ·rename_i h1
   rw[if_pos h1] at ht;rw[F5 (by rw[M9,a4];decide),cond_true];simp (disch:=((try simp only[Dd,cZ,amN,amO,M9,k30,k2e,k0]);omega)) only [AZ,TC]
   refine congrArg some (Co ?_);simp only[Dd,M9,k30,k2e,k0,aK];rw[<- ht];simp
  ·rename_i h1
   rw[if_neg h1] at ht;rw[EA (by rw[M9,a4];decide),cond_false];simp (disch:=((try simp only[Dd,cZ,amN,amO,M9,k30,k2e,k0]);omega)) only [AZ,TC]
   refine congrArg some (Co ?_);simp only[Dd,M9,k30,k2e,k0,aK];rw[<- ht];simp
def axR:((bcB 10).all λi=>decide ((uY [(w8 (Ba 48 ((i:Nat):Int)))]).data.toList=[RL i]))=true:=by kernel_rfl
def aDM{i:Nat}(h:i < 10):uY [(w8 (Ba 48 ((i:Nat):Int)))]=⟨[RL i].toArray⟩:=Co (of_decide_eq_true (bcC.1 axR i (bcZ.2 h)))
def adG(m:Nat):KS (m:Int) 10=((m % 10:Nat):Int):=(bjD m 10).symm
def aqI{m:Nat}(h:m<=999999999999):L7 (m:Int) 10=((m / 10:Nat):Int):=by unfold L7;have e:((m:Nat):Int).tdiv 10=((m / 10:Nat):Int):=(bjE m 10).symm;have h7:=L8 (n:=((m / 10:Nat):Int)) (by omega);rw[KR] at h7;rw[e];exact h7
def xD{s:List UInt8}:Eh 0 ⟨s.toArray⟩=some (.ex ⟨s.toArray⟩):=by unfold Eh;rw[EA (by omega),cond_false]
def qW{m:Nat}{s:List UInt8}(h0:¬m=0)(h2:m<=999999999999)(h3:s.length<=100+(999999999999 - m)):Eh (m:Int) ⟨s.toArray⟩=some (.nx (((m / 10:Nat):Int),(⟨(RL (m % 10)::s).toArray⟩:ByteArray))):=by have e:((⟨[RL (m % 10)].toArray⟩:ByteArray)++(⟨s.toArray⟩:ByteArray))=⟨(RL (m % 10)::s).toArray⟩:=Co (by rw[Dd,M9,M9,M9];rfl);unfold Eh;rw[F5 (by omega),cond_true,adG,aDM (by omega),aqI h2,AZ (by rw[M9,M9];simp;omega)];rw[e]
def Y1:∀(f m:Nat)(s:List UInt8),m < f->m<=999999999999->s.length<=100+(999999999999 - m)->CT (λx=>Eh x.1 x.2) f ((m:Int),(⟨s.toArray⟩:ByteArray))=some (.inl ⟨((if m=0 then [] else Ql m)++s).toArray⟩)
 |0,m,s,h,_,_=>by omega
 |f+1,m,s,h,h2,h3=>by
  rw[CT];dsimp only;by_cases h0:m=0;subst h0;rw[show(((0:Nat):Int))=0 from rfl,xD,if_pos rfl];rfl;rw[qW h0 h2 h3,TC];show CT (λx=>Eh x.1 x.2) f _=_;rw[Y1 f (m / 10) _ (by omega) (by omega) (by simp;omega),if_neg h0];congr 4;by_cases h1:m / 10=0;rw[if_pos h1,Ia (by omega),show m % 10=m by omega];rfl;rw[if_neg h1,LD (u:=m) (by omega)];simp
def Kw{n:Int}(h:0<=n/\n<=999999999999):BJ n=some ⟨(dP n).toArray⟩:=by obtain⟨m,rfl⟩:=bcD h.1;unfold BJ;rw[adG,aDM (by omega),aqI (by omega)];have:=Y1 (m / 10+1) (m / 10) [RL (m % 10)] (by omega) (by omega) (by simp only[bbK];omega);rw[show IT (λx=>Eh x.1 x.2) (((m / 10:Nat):Int),(⟨[RL (m % 10)].toArray⟩:ByteArray))=_ from D0 this,TC];dsimp only[GF];unfold dP;rw[aUW];congr 3;by_cases h1:m / 10=0;rw[if_pos h1,Ia (by omega),show m % 10=m by omega];rfl;rw[if_neg h1,LD (u:=m) (by omega)]
def jV(q:Nat){n:Int}(h:0<=n/\n<=999999999999):Fw (q+1) n=some ⟨(aK n).toArray⟩:=by
 have k2e:(Nr).data.toList=[46]:=rfl;obtain⟨m,rfl⟩:=bcD h.1;rw[Fw,MQ,EA (by omega),cond_false,zF h,adG,aqI (by omega),adG,Kw (by omega),Kw (by omega),Kw (by omega)];have hl:=Ul 11 (m / 100) (by omega);unfold dP;simp only[TC,aUW];rw[Ia (show m / 10 % 10 < 10 by omega),Ia (show m % 10 < 10 by omega)];simp (disch:=((try simp only[Dd,cZ,amN,amO,M9,k2e]);omega)) only [AZ]
 refine congrArg some (Co ?_);simp only[Dd,M9,k2e,aK,aUW];rw[show m % 100 / 10=m / 10 % 10 by omega];simp
def eV{z:Int}(h:-999999999999<=z/\z<=999999999999):Gr z=some ⟨(seL z).toArray⟩:=by have k2d:(Em).data.toList=[45]:=rfl;refine NA 2 λq hq=>?_;obtain⟨q,rfl⟩:∃k,q=k+2:=⟨q - 2,by omega⟩;unfold seL;by_cases h0:z < 0;have hl:=Ul 11 ((-z).toNat / 100) (by omega);rw[Fw,MQ,F5 h0,cond_true,bG (by omega),jV q (by omega),if_pos h0,TC,AZ (by rw[M9,k2d];unfold aK;simp;omega)];exact congrArg some (Co (by rw[Dd,M9,M9,k2d];rfl));rw[jV (q+1) (by omega),if_neg h0]
end Mo
end Go.Proofs.YtkcimienkafhmaaGreatDoor
namespace Go.Proofs.YtkcimienkafhmaaGreatDoor
open AI Go
namespace Mo
set_option maxHeartbeats 4000000
abbrev eS:ByteArray:=VE
def acL(c:Int):ED c=some (mb (97<=c/\c<=122)):=by rw[ED];simp only[FY,B9,LK,Il]
def avJ(c:Int):D8 c=some (mb (48<=c/\c<=57)):=by rw[D8];simp only[FY,B9,LK,Il]
def aAQ(c:Int):Db c=some (mb (65<=c/\c<=90)):=by rw[Db];simp only[FY,B9,LK,Il]
def PG(n a b:Int):Bd n a b=some (mb (a<=n/\n<=b)):=by rw[Bd];simp only[FY,B9,LK,Il]
def aJI(l:List ByteArray)(s:ByteArray)(hl:l.length<=9223372036854775807):La l s=some (mb (s∈l)):=by
 unfold La
 rw[OY (v:=true) (P:=λ_ y=>¬y=s) hl (λi y _=>by
  unfold Zm;simp only[FW,B9,agN])]
 simp only[aXZ];refine Sv ?_;constructor;intro h;exact Classical.byContradiction λhn=>h λi y hy e=>hn (e▸aUV hy);intro h hn;obtain⟨i,hi⟩:=beI h;exact hn i s hi rfl
def aCN(s:ByteArray):JW s=some (mb (iG s)):=by
 rw[JW,BT,B9];unfold iG;by_cases h:s.data.toList.length=3
 ·rw[Aq (by omega)]
  generalize s.data.toList=l at h
  match l,h with
  |[a,b,c],_=>
   simp only[bbH,bdV,TC,aAQ,B9,Il];refine Sv ?_;simp only[amN,amO,bbG,bdO,or_false,true_and,forall_eq_or_imp,forall_eq];omega
 rw[Ar (by omega)];exact NT λq=>h q.1
def apC(s:ByteArray):Ke s=some (mb (KB s)):=by
 rw[Ke];simp only[HV,B9];unfold KB;by_cases h0:((s.data.toList.length:Nat):Int) < 1;rw[Aq h0];exact NT λh=>by omega
 rw[Ar h0];by_cases h1:16 < ((s.data.toList.length:Nat):Int);rw[Aq h1];exact NT λh=>by omega
 rw[Ar h1];obtain⟨b,hb⟩:∃b,s.data.toList[0]?=some b:=⟨_,atS (by omega)⟩;rw[hb,show Sh=some acC from rfl];simp only[TC,acL,B9]
 rw[aJI _ _ (by decide),OY (v:=false) (P:=λ_ y=>lW y) (by omega) (λi y _=>by
  simp only[Vh,acL,avJ,TC,B9,BT,sD,aQX];congr 2;unfold lW;apply propext;omega)]
 simp only[TC,B9,LK,aRH,Il,VK];refine Sv ?_;constructor;rintro⟨h3,h5,h6⟩;exact⟨by omega,⟨b,rfl,by omega⟩,h5,h6⟩;rintro⟨h3,⟨c,hc,h4⟩,h5,h6⟩;cases hc;exact⟨by omega,h5,h6⟩
def zD(n:Nd):Prop:=n.fr=0/\n.to=0/\n.known=0
def zT(n:Nd):Prop:=n.Cg.den=0/\n.Cg.ps=[]
def oB{α:Type}(l:List α):(((l.length:Nat):Int)=0)=(l=[]):=propext ⟨λh=>bbD (by omega),λh=>by rw[h];rfl⟩
section
variable (n:Nd)
def mN:Fi n=some (mb (n.name=eS/\n.unit=eS/\n.n=0/\zD n/\zT n)):=by rw[Fi];simp only[BT,FW,B9,LK,Il,oB,zD,zT];exact Sv (by simp only[and_assoc])
def ajX:Ha n=some (mb (n.name=eS/\zD n/\zT n/\n.kids=[])):=by rw[Ha];simp only[BT,FW,B9,LK,Il,oB,zD,zT];exact Sv (by simp only[and_assoc])
def aGI:G9 n=some (mb (n.unit=eS/\n.n=0/\zD n/\zT n/\n.kids=[])):=by rw[G9];simp only[BT,FW,B9,LK,Il,oB,zD,zT];exact Sv (by simp only[and_assoc])
def aGK:K0 n=some (mb (n.name=eS/\n.unit=eS/\zD n/\zT n/\n.kids=[])):=by rw[K0];simp only[BT,FW,B9,LK,Il,oB,zD,zT];exact Sv (by simp only[and_assoc])
def auP:Gw n=some (mb (n.unit=eS/\n.n=0/\zD n/\zT n)):=by rw[Gw];simp only[BT,FW,B9,LK,Il,oB,zD,zT];exact Sv (by simp only[and_assoc])
def auR:Kg n=some (mb (n.name=eS/\n.unit=eS/\n.n=0/\zD n)):=by rw[Kg];simp only[BT,FW,B9,LK,Il,zD]
def aGJ:ET n=some (mb (n.n=0/\zD n/\zT n/\n.kids=[])):=by rw[ET];simp only[BT,FW,B9,LK,Il,oB,zD,zT];exact Sv (by simp only[and_assoc])
def aGL:EU n=some (mb (zD n/\zT n/\n.kids=[])):=by rw[EU];simp only[BT,FW,B9,LK,Il,oB,zD,zT];exact Sv (by simp only[and_assoc])
def auQ:Ew n=some (mb (n.unit=eS/\zD n/\zT n)):=by rw[Ew];simp only[BT,FW,B9,LK,Il,oB,zD,zT];exact Sv (by simp only[and_assoc])
def auO:Kf n=some (mb (n.name=eS/\n.unit=eS/\zT n/\n.kids=[])):=by rw[Kf];simp only[BT,FW,B9,LK,Il,oB,zT];exact Sv (by simp only[and_assoc])
end
def yJ{α:Type}{l:List α}:l.length=0↔l=[]:=List.length_eq_zero_iff
def bA{a d m:Int}(hd:0 < d)(h:a.tmod d=0):(-m<=a.tdiv d/\a.tdiv d<=m)↔(-(m*d)<=a/\a<=m*d):=by have e:d*a.tdiv d=a:=Int.mul_tdiv_cancel' (Int.dvd_of_tmod_eq_zero h);generalize a.tdiv d=q at *;subst e;constructor;rintro⟨h1,h2⟩;have a1:=bhF h1 (bkF hd);have a2:=bhF h2 (bkF hd);rw[Int.mul_neg,biN d m] at a1;rw[biN d m] at a2;exact⟨a1,a2⟩;rintro⟨h1,h2⟩;rw[biN m d] at h1 h2;refine⟨bhR ?_ hd,bhR h2 hd⟩;rw[Int.mul_neg];exact h1
def aAK(f:Fn)(hf:sT f):MP f=some (mb (Z6 f)):=by
 obtain⟨hl,hpc⟩:=hf;rw[MP,PG,PG];simp only[TC,B9];by_cases hr:1<=f.den/\f.den<=1000000;rotate_left;rw[Ar hr];exact NT λq=>hr q.1;rw[Aq hr];by_cases hn:1<=((f.ps.length:Nat):Int)/\((f.ps.length:Nat):Int)<=64;rotate_left;rw[Ar hn];exact NT λq=>hn ⟨by have:=q.2.1;omega,by have:=q.2.1;omega⟩
 rw[Aq hn,OY (v:=false) (P:=λi y=>Xk f i y/\(i=0->y.fr=0)) hl (λi y hy=>by
  have hi:i < f.ps.length:=(aHS.1 hy).1;obtain⟨_,Y5,_⟩:=hpc y (aUV hy);have awK:f.den≠0:=by omega
  have hd0:0 < f.den:=by omega
  have hm:WN y.BH f.den=some (y.BH.tmod f.den):=by unfold WN KS;rw[if_neg awK]
  have hq:Oc y.BH f.den=some (y.BH.tdiv f.den):=by
   unfold Oc L7;rw[if_neg awK];have h1:(y.BH.tdiv f.den).natAbs<=y.BH.natAbs:=Int.natAbs_tdiv_le_natAbs _ _
   have h3:-9223372036854775808<=y.BH.tdiv f.den/\y.BH.tdiv f.den<=9223372036854775807:=by
    by_cases aVX:f.den=1;rw[aVX,Int.tdiv_one];exact Y5;have h2:y.BH.natAbs<=9223372036854775808:=by omega
    have h4:(y.BH.tdiv f.den).natAbs < 9223372036854775808:=by
     rw[Int.natAbs_tdiv];have h5:2<=f.den.natAbs:=by omega
     have:y.BH.natAbs / f.den.natAbs<=y.BH.natAbs / 2:=Nat.div_le_div_left h5 (by decide);have h6:y.BH.natAbs / 2<=9223372036854775808 / 2:=Nat.div_le_div_right h2;exact Nat.lt_of_le_of_lt (bbM this h6) (by decide)
    omega
   congr 1;have h7:=L8 h3;rw[KR] at h7;exact h7
  have aWO:CE 999999999999 f.den=999999999999*f.den:=FU (by omega);have aWP:CE (-999999999999) f.den=-(999999999999*f.den):=by rw[FU (by omega)];omega
  simp only[T4,hm,hq,PG,TC,BT,HV,FY,B9];unfold Xk;rw[hm,aWO,aWP];by_cases h0:i=0;subst h0;rw[Aq (show(((0:Nat):Int)=0) from rfl)];simp only[sD,agO,aoB];congr 2;apply propext;simp only[aUQ,Nat.lt_irrefl,false_implies,implies_true,true_and];constructor;rintro⟨a,b,c,d,e⟩;have:=(bA (m:=999999999999) hd0 a).1 b;exact⟨⟨by omega,a,this.2,this.1,c.2,c.1⟩,λ_=>e⟩;rintro⟨⟨a,b,c,d,e,g⟩,h⟩;exact⟨b,(bA hd0 b).2 ⟨d,c⟩,⟨g,e⟩,by omega,h trivial⟩;rw[Ar (show ¬(((i:Nat):Int)=0) by omega),Aq (show(0:Int) < ((i:Nat):Int) by omega),Ii (by omega)];obtain⟨pv,hpq⟩:∃pv,f.ps[i - 1]?=some pv:=⟨_,atS (by omega)⟩
  have hg:FI f.ps (((i:Nat):Int) - 1)=some pv:=by unfold FI;rw[show(((i:Nat):Int) - 1).toNat=i - 1 by omega,if_pos (by omega)];exact hpq
  rw[hg,hpq];simp only[TC,agN,agO,aoB];congr 2;apply propext;simp only[aUQ,forall_eq'];constructor;rintro⟨a,b,c,d,e⟩;have:=(bA (m:=999999999999) hd0 a).1 b;exact⟨⟨by omega,λq _ e=>by subst e;omega,a,this.2,this.1,c.2,c.1⟩,λq=>absurd q h0⟩;rintro⟨⟨a,p,b,c,d,e,g⟩,h⟩;exact⟨b,(bA hd0 b).2 ⟨d,c⟩,⟨g,e⟩,by omega,by have:=p pv (by omega) rfl;omega⟩),LK]
 refine Sv ?_;unfold Z6 I0;constructor;intro h;exact⟨hr,by omega,λx hx=>(h 0 x hx).2 rfl,λi p hp=>(h i p hp).1⟩;rintro⟨_,_,h3,h4⟩ i p hp;exact⟨h4 i p hp,λe=>h3 p (by rw[<- e];exact hp)⟩
def apJ(n:Nd):IF n=some (mb (n.kind=11/\(n.name=eS/\zD n/\zT n/\n.kids=[])/\n.unit=CW/\I0 n.n)):=by rw[IF,ajX,PG];simp only[TC,BT,FW,B9,Il];rfl
theorem adW(l m:List Nd):H9 (l++m)=H9 l+H9 m:=by induction l with|nil=>simp[H9]|cons a l ih=>simp only[bcP,H9,ih];omega
theorem asL{l:List Nd}{i:Nat}{y:Nd}(h:l[i]?=some y):H9 (l.take (i+1))=H9 (l.take i)+Ds y:=by rw[List.take_add_one,h,adW];simp[H9]
theorem asM(l:List Nd)(i:Nat):H9 (l.take i)<=H9 l:=by have:=adW (l.take i) (l.drop i);rw[List.take_append_drop] at this;omega
theorem okQ(n:Nd)(h:F6 n):n.kids.length<=9223372036854775807/\∀k∈n.kids,F6 k:=(QA h).2
section
variable {Q:Nd->Prop}(hQ:∀n,Q n->n.kids.length<=9223372036854775807/\∀k∈n.kids,Q k)
include hQ
theorem aON:∀(n:Nat)(e:Nd)(l:Int),Q e->Ds e<=n->l<=1000000->Gq n e l=some (max 0 (min ((Ds e:Nat):Int) l)):=by
 intro n
 induction n with
 |zero=>intro e l _ h;have:=CS e;omega
 |succ n ih=>
  intro e l MH hn hl;obtain⟨hk,OE⟩:=hQ e MH;have hp:=CS e;rw[Gq,QN,aCB];simp only[FY,B9,wK,Ww];refine⟨λh=>by omega,λh=>?_⟩;refine auC (λi x=>x=min (((1+H9 (e.kids.take i):Nat)):Int) l) hk (by simp[H9];omega) (λi y x hy hx=>?_) (λx hx=>?_);have hm:=aUV hy;have h1:=asL hy;have h2:=asM e.kids (i+1);have h3:=Qa hm;simp only[TY,HV,B9,wK,abC,Ww,aNY,aNX];refine⟨λh4=>?_,λh4=>by omega⟩;rw[Ii (by omega),ih y (l - x) (OE y hm) (by omega) (by omega),Ww,BS (by omega)];omega;rw[List.take_length] at hx;rw[Ww];omega
theorem aCP(e:Nd)(l:Int)(h:Q e)(hl:0<=l/\l < 1000000):JX e l=some (mb (((Ds e:Nat):Int)<=l)):=by have hc:QO e (l+1)=some (max 0 (min ((Ds e:Nat):Int) (l+1))):=NA (Ds e) λn hn=>aON hQ n e (l+1) h hn (by omega);rw[JX,BS (by omega),hc,aCB];simp only[FY,B9,wK,Ww,abC,aaJ,Y2];omega
theorem alQ:∀(n:Nat)(e:Nd)(l:Int),Q e->Ds e<=n->-1000000<=l->l<=1000000->Hl n e l=some (mb (((Ob e:Nat):Int)<=l)):=by
 intro n
 induction n with
 |zero=>intro e l _ h;have:=CS e;omega
 |succ n ih=>
  intro e l MH hn hl0 hl;obtain⟨hk,OE⟩:=hQ e MH;have hp:=Qm e;rw[Hl,Sg,HV,B9];by_cases h:l < 1;rw[Aq h];refine NT ?_;omega
  rw[Ar h,OY (v:=false) (P:=λ_ y=>((Ob y:Nat):Int)<=l - 1) hk (λi y hy=>by
   have hm:=aUV hy;have h3:=Qa hm;simp only[Vg];rw[Ii (by omega),ih y (l - 1) (OE y hm) (by omega) (by omega) (by omega)];simp only[TC,B9,sD]),LK,VK]
  refine Sv ?_
  have h4:(∀k∈e.kids,((Ob k:Nat):Int)<=l - 1)↔vT e.kids<=(l - 1).toNat:=by rw[X8];exact⟨λh k hk=>by have:=h k hk;omega,λh k hk=>by have:=h k hk;omega⟩
  rw[h4];omega
theorem aHD(e:Nd)(h:Q e):LW e=some (mb (Ds e<=2000/\Ob e<=40)):=by have hf:Kd e 40=some (mb (((Ob e:Nat):Int)<=40)):=NA (Ds e) λn hn=>alQ hQ n e 40 h hn (by omega) (by omega);rw[LW,aCP hQ e 2000 h (by omega),hf];simp only[TC,B9,Il];refine Sv ?_;omega
end
theorem aOV(e:Nd)(l:Int)(h:F6 e)(hl:0<=l/\l < 1000000):JX e l=some (mb (((Ds e:Nat):Int)<=l)):=aCP okQ e l h hl
theorem aHE(e:Nd)(h:F6 e):LW e=some (mb (Ds e<=2000/\Ob e<=40)):=aHD okQ e h
theorem eqN{n:Nd}{nm un:ByteArray}{k f t w:Int}{tb:Fn}:F4 n ⟨0,nm,un,k,f,t,w,tb,[],0⟩↔n.name=nm/\n.unit=un/\n.n=k/\n.fr=f/\n.to=t/\n.known=w/\n.Cg.den=tb.den/\n.Cg.ps=tb.ps:=Iff.rfl
theorem kU{k:Nd}:He k/\Qz k↔(k.kind=11/\(k.name=eS/\zD k/\zT k/\k.kids=[])/\k.unit=CW/\I0 k.n):=by rw[Ga];unfold Qz zD zT I0;constructor;rintro⟨⟨h1,_⟩,h2,h3,h4⟩;obtain⟨_,_,_,_,hl,hb⟩:=(xI h2).1 h1;obtain⟨b1,_,_,b4,b5,b6,b7,b8⟩:=eqN.1 hb;exact⟨h2,⟨b1,⟨b4,b5,b6⟩,⟨b7,b8⟩,yJ.1 hl⟩,h3,h4⟩;rintro⟨h2,⟨b1,⟨b4,b5,b6⟩,⟨b7,b8⟩,hl⟩,h3,h4⟩;refine⟨⟨(xI h2).2 ⟨.inr (.inl h3),by omega,by omega,λe=>?_,by rw[hl];rfl,eqN.2 ⟨b1,rfl,rfl,b4,b5,b6,b7,b8⟩⟩,λk hk=>by rw[hl] at hk;cases hk⟩,h2,h3,h4⟩;rw[h3] at e;exact absurd (congrArg ByteArray.data e) (by decide)
theorem avR:∀(q:Nat)(n:Nd),F6 n->2*Ds n<=q->Eg q n=some (mb (He n)):=by
 intro q
 induction q using beW with
 |_ q ih=>
 intro n MH hq;have hsz:=CS n;obtain⟨q,rfl⟩:∃k,q=k+1:=⟨q - 1,by omega⟩;obtain⟨wA,nK,OE⟩:=QA MH;have hfn:=((TO n).1 MH).1;have hE:∀k∈n.kids,∀q',q<=q'+1->q' < q+1->Eg q' k=some (mb (He k)):=λk hk q' h4 h5=>ih q' h5 k (OE k hk) (by have:=Fx hk;omega)
 have hL:0 < n.kids.length->Fv q n.kids=some (mb (∀k∈n.kids,He k)):=by
  intro h;obtain⟨q,rfl⟩:∃k,q=k+1:=⟨q - 1,by have:=Kj n.kids;omega⟩
  rw[Fv,QP,OY (v:=false) (P:=λ_ y=>He y) nK (λi y hy=>by
   simp only[T3];rw[hE y (aUV hy) q (by omega) (by omega)];simp only[TC,B9,sD]),LK,VK]
 rw[Eg,Si];simp only[BT,FW,FY,B9,ajX,aGI,aGK,mN,auP,auR,PG,aCN,apC,apJ,aAK _ hfn,TC];rw[Ga];have oF:n.kids=[]->(∀k∈n.kids,He k):=λh k hk=>by rw[h] at hk;cases hk
 by_cases dR:n.kind=11;rw[Aq dR,xI dR,eqN,yJ];simp only[LK,Il,axL,R4,zD,zT,KP];have tt:FX (iG n.unit) (some true) (some true)=some (mb True):=by rw[R4,mbT]
 have hb:∀{A:Prop},FX A (some (mb True)) (some false)=some (mb A):=by intro A;rw[Il];exact Sv (by simp)
 first
  |(simp only[tt,mbT,Il,axK])
  |skip
 refine Sv ⟨?_,?_⟩;rintro⟨⟨b1,⟨b2,b3,b4⟩,⟨b5,b6⟩,b7⟩,h1,h2⟩;refine⟨?_,oF b7⟩;by_cases ht:n.unit=Ey;have:=h1 ht;exact⟨.inl ht,by omega,by omega,λ_=>by omega,b7,b1,trivial,trivial,b2,b3,b4,b5,b6⟩;obtain⟨h3,h4⟩:=h2 ht;refine⟨?_,by omega,by omega,λh=>absurd h ht,b7,b1,trivial,trivial,b2,b3,b4,b5,b6⟩;rcases h4 with h | h | h
 exact .inr (.inr (.inr h));exact .inr (.inl h);exact .inr (.inr (.inl h));rintro⟨⟨h0,h1,h2,h3,b7,b1,_,_,b2,b3,b4,b5,b6⟩,_⟩;refine⟨⟨b1,⟨b2,b3,b4⟩,⟨b5,b6⟩,b7⟩,λht=>⟨⟨h1,h3 ht⟩,h1,h2⟩,λht=>⟨⟨h1,h2⟩,?_⟩⟩;rcases h0 with h | h | h | h
 exact absurd h ht;exact .inr (.inl h);exact .inr (.inr h);exact .inl h;rw[Ar dR];by_cases wE:n.kind=12;rw[Aq wE,avM wE,eqN,yJ];simp only[Il,zD,zT];refine Sv ?_;constructor;rintro⟨⟨b1,b2,⟨b3,b4,b5⟩,⟨b6,b7⟩,b8⟩,h⟩;exact⟨⟨h,b8,trivial,b1,b2,b3,b4,b5,b6,b7⟩,oF b8⟩;rintro⟨⟨h,b8,_,b1,b2,b3,b4,b5,b6,b7⟩,_⟩;exact⟨⟨b1,b2,⟨b3,b4,b5⟩,⟨b6,b7⟩,b8⟩,h⟩;rw[Ar wE];by_cases Ze:n.kind=13;rw[Aq Ze,alF Ze,eqN,yJ];simp only[Il,zD,zT];refine Sv ?_;constructor;rintro⟨⟨b1,b2,⟨b3,b4,b5⟩,⟨b6,b7⟩,b8⟩,h⟩;exact⟨⟨h,b8,b1,b2,trivial,b3,b4,b5,b6,b7⟩,oF b8⟩;rintro⟨⟨h,b8,b1,b2,_,b3,b4,b5,b6,b7⟩,_⟩;exact⟨⟨b1,b2,⟨b3,b4,b5⟩,⟨b6,b7⟩,b8⟩,h⟩;rw[Ar Ze];by_cases k14:n.kind=14;rw[Aq k14,avN k14,eqN,yJ,aJI _ _ (by decide)];simp only[TC,Il,zD,zT];refine Sv ?_
 have hd:n.name∈[Hw,WK,LN,Qi]↔X9 n.name:=by unfold X9;simp only[bbG,bdO,or_false]
 rw[hd];constructor;rintro⟨⟨b1,b2,⟨b3,b4,b5⟩,⟨b6,b7⟩,b8⟩,h⟩;exact⟨⟨h,b8,trivial,b1,b2,b3,b4,b5,b6,b7⟩,oF b8⟩;rintro⟨⟨h,b8,_,b1,b2,b3,b4,b5,b6,b7⟩,_⟩;exact⟨⟨b1,b2,⟨b3,b4,b5⟩,⟨b6,b7⟩,b8⟩,h⟩;rw[Ar k14]
 have hone:∀{β:Type}(f:Bool->Option β),n.kids.length=1->((n.kids[0]?).bind λx=>(Eg q x).bind f)=f (mb (∀k∈n.kids,He k)):=by
  intro β f hl;have hE0:=λk hk=>hE k hk q (by omega) (by omega);generalize n.kids=ks at *
  match ks,hl with
  |[x],_=>
  simp only[bbH,TC];rw[hE0 x (by simp)];simp only[TC];congr 1;exact LM (by simp)
 by_cases TH:n.kind=15;rw[Aq TH,alG TH,eqN];by_cases hl:n.kids.length=1;rw[Aq (show((n.kids.length:Nat):Int)=1 by omega),hone _ hl];simp only[Il,zD,zT];refine Sv ?_;constructor;rintro⟨⟨b1,b2,b0,⟨b3,b4,b5⟩,⟨b6,b7⟩⟩,h⟩;exact⟨⟨hl,b1,b2,b0,b3,b4,b5,b6,b7⟩,h⟩;rintro⟨⟨_,b1,b2,b0,b3,b4,b5,b6,b7⟩,h⟩;exact⟨⟨b1,b2,b0,⟨b3,b4,b5⟩,⟨b6,b7⟩⟩,h⟩;rw[Ar (show ¬((n.kids.length:Nat):Int)=1 by omega),R4];exact NT λa=>hl a.1.1;rw[Ar TH];by_cases S7:n.kind=16
 ·rw[Aq S7,afZ S7,eqN,aJI _ _ (by decide)]
  have WW:n.name∈[kZ,QY,JV,JU,Ns,Jo,Ro,Em,Sf,CK,jQ]↔Ws n.name:=by
   unfold Ws;simp only[bbG,bdO,or_false];constructor;rintro(h | h | h | h | h | h | h | h | h | h | h)<;>simp[h]
   rintro(h | h | h | h | h | h | h | h | h | h | h)<;>simp[h]
  by_cases hl:n.kids.length=2;rotate_left;rw[Ar (show ¬((n.kids.length:Nat):Int)=2 by omega),R4];exact NT λa=>hl a.1.2.1;rw[Aq (show((n.kids.length:Nat):Int)=2 by omega),hL (by omega)];have hk1:n.kids[1]?=some n.kids[1]:=atS (by omega);have Yc:n.kids[1]∈n.kids:=List.getElem_mem _;rw[hk1];simp only[TC,apJ,B9,Il,axK,WW,zD,zT];refine Sv ?_;have anM:=@kU n.kids[1];unfold zD zT at anM;generalize n.kids[1]=x at *;simp only[aUQ,forall_eq'];constructor;rintro⟨⟨b2,b0,⟨b3,b4,b5⟩,⟨b6,b7⟩⟩,h1,h2⟩;by_cases hs:n.name=CK;obtain⟨c1,c2,c3⟩:=h1 hs;exact⟨⟨⟨trivial,b2,b0,b3,b4,b5,b6,b7⟩,hl,c2,λ_=>(anM.2 c1).2⟩,c3⟩;obtain⟨c2,c3⟩:=h2 hs;exact⟨⟨⟨trivial,b2,b0,b3,b4,b5,b6,b7⟩,hl,c2,λh=>absurd h hs⟩,c3⟩;rintro⟨⟨⟨_,b2,b0,b3,b4,b5,b6,b7⟩,_,c2,c1⟩,c3⟩;exact⟨⟨b2,b0,⟨b3,b4,b5⟩,⟨b6,b7⟩⟩,λhs=>⟨anM.1 ⟨c3 x Yc,c1 hs⟩,c2,c3⟩,λ_=>⟨c2,c3⟩⟩
 rw[Ar S7];by_cases sC:n.kind=17
 ·rw[Aq sC,alH sC,eqN]
  by_cases hl:2<=n.kids.length;rotate_left;rw[Ar (show ¬2<=((n.kids.length:Nat):Int) by omega),R4];exact NT λa=>hl a.1.2.2;rw[Aq (show 2<=((n.kids.length:Nat):Int) by omega),hL (by omega)];simp only[TC,Il,axK,zD,zT];refine Sv ?_;constructor;rintro⟨⟨b2,b0,⟨b3,b4,b5⟩,⟨b6,b7⟩⟩,h1,h2⟩;by_cases hs:n.name=Jl;exact⟨⟨.inl hs,⟨trivial,b2,b0,b3,b4,b5,b6,b7⟩,hl⟩,h1 hs⟩;exact⟨⟨.inr (h2 hs).1,⟨trivial,b2,b0,b3,b4,b5,b6,b7⟩,hl⟩,(h2 hs).2⟩;rintro⟨⟨c1,⟨_,b2,b0,b3,b4,b5,b6,b7⟩,_⟩,c3⟩;exact⟨⟨b2,b0,⟨b3,b4,b5⟩,⟨b6,b7⟩⟩,λ_=>c3,λhs=>⟨c1.resolve_left hs,c3⟩⟩
 rw[Ar sC];by_cases kJ:n.kind=18;rw[Aq kJ,alI kJ,eqN];by_cases hl:n.kids.length=1;rw[Aq (show((n.kids.length:Nat):Int)=1 by omega),hone _ hl];simp only[B9,Il,zD];refine Sv ?_;constructor;rintro⟨⟨b1,b2,b0,⟨b3,b4,b5⟩⟩,h,h2⟩;exact⟨⟨⟨b1,b2,b0,b3,b4,b5,trivial,trivial⟩,h2,hl⟩,h⟩;rintro⟨⟨⟨b1,b2,b0,b3,b4,b5,_,_⟩,h2,_⟩,h⟩;exact⟨⟨b1,b2,b0,⟨b3,b4,b5⟩⟩,h,h2⟩;rw[Ar (show ¬((n.kids.length:Nat):Int)=1 by omega),R4];exact NT λa=>hl a.1.2.2;rw[Ar kJ];exact NT λa=>by have:=Uo a.1;omega
theorem alK{n:Nd}(MH:F6 n):I1 n=some (mb (He n)):=NA (2*Ds n) λq hq=>avR q n MH hq
theorem aIA{n:Nd}:Gn n=some (mb (N0 n)):=by rw[Gn,auO];simp only[PG,TC,BT,B9];unfold N0;rw[eqN,yJ];unfold zT X5;by_cases hf:0<=n.fr/\n.fr<=36524;rw[BS (by omega)];simp only[Il];refine Sv ⟨?_,?_⟩;rintro⟨k5,⟨b1,b2,⟨b3,b4⟩,b5⟩,⟨h1,h2⟩,h3,⟨h4,h5⟩,h6⟩;exact⟨k5,⟨h1,h2⟩,b5,h3,⟨by omega,h5⟩,h6,b1,b2,trivial,trivial,trivial,trivial,b3,b4⟩;rintro⟨k5,h1,b5,h3,⟨h4,h5⟩,h6,b1,b2,_,_,_,_,b3,b4⟩;exact⟨k5,⟨b1,b2,⟨b3,b4⟩,b5⟩,h1,h3,⟨by omega,h5⟩,h6⟩;rw[Ar hf];simp only[R4];exact NT λa=>hf a.2.2.2.1
theorem agV(l:List Nd)(hl:l.length<=9223372036854775807):K1 l=some (mb (0 < l.length/\∀k∈l,He k/\Qz k)):=by
 rw[K1,OY (v:=false) (P:=λ_ k=>He k/\Qz k) hl (λi k _=>by
  simp only[Rt,apJ,TC,B9,sD,kU]),HV,B9]
 simp only[LK,Il,VK];exact Sv ⟨λa=>⟨by omega,a.1⟩,λa=>⟨a.2,by omega⟩⟩
theorem wT(n:Nd):F4 n z0↔n.name=eS/\n.unit=eS/\n.n=0/\zD n/\zT n:=by unfold zD zT;rw[eqN];simp only[and_assoc]
theorem Tu:∀{l:List Nd}{i:Nat}{a b:Nat},(∀x∈l,F6 x)->a+l.length<=9223372036854775807->b+l.length<=9223372036854775807 ->
 Bu (λi y x=>Ex i y x.1 x.2) (λx=>(x.1,x.2)) l i (((a:Nat):Int),((b:Nat):Int))=(some (FX (kinds l/\∀k∈l,Cn k) (.inl (((a+De 7 l:Nat):Int),((b+De 8 l:Nat):Int))) (.inr false)):Option ((Int×Int)⊕Bool))
 |[],i,a,b,_,_,_=>by rw[Aq (show kinds []/\_ from ⟨λk hk=>(by cases hk),λk hk=>(by cases hk)⟩)];rfl
 |x::l,i,a,b,MH,ha,hb=>by
  simp only[amN] at ha hb;have hx:=MH x (by simp);obtain⟨wA,nK,OE⟩:=QA hx;rw[Bu,Ex,mN];simp only[TC,BT,B9,agV _ nK]
  have yA:(kinds (x::l)/\∀k∈x::l,Cn k)↔((6<=x.kind/\x.kind<=8)/\Cn x)/\kinds l/\∀k∈l,Cn k:=by unfold kinds;simp only[bbG,forall_eq_or_imp];exact⟨λ⟨⟨p,q⟩,r,s⟩=>⟨⟨p,r⟩,q,s⟩,λ⟨⟨p,r⟩,q,s⟩=>⟨⟨p,q⟩,r,s⟩⟩
  have stop:¬((6<=x.kind/\x.kind<=8)/\Cn x)->(some (Lp.rt false):Option (Lp (Int×Int) (Int×Int) Bool)).bind (OU (Bu (λi y x=>Ex i y x.1 x.2) (λx=>(x.1,x.2)) l (i+1)))=some (FX (kinds (x::l)/\∀k∈x::l,Cn k) (.inl (((a+De 7 (x::l):Nat):Int),((b+De 8 (x::l):Nat):Int))) (.inr false)):=by intro h;rw[Ar λq=>h (yA.1 q).1];rfl
  have go:∀{a' b':Nat},((6<=x.kind/\x.kind<=8)/\Cn x)->a'<=a+1->b'<=b+1->a'+De 7 l=a+De 7 (x::l)->b'+De 8 l=b+De 8 (x::l)->(some (Lp.nx (((a':Nat):Int),((b':Nat):Int))):Option (Lp (Int×Int) (Int×Int) Bool)).bind (OU (Bu (λi y x=>Ex i y x.1 x.2) (λx=>(x.1,x.2)) l (i+1)))=some (FX (kinds (x::l)/\∀k∈x::l,Cn k) (.inl (((a+De 7 (x::l):Nat):Int),((b+De 8 (x::l):Nat):Int))) (.inr false)):=by intro a' b' h h1 h2 e1 e2;have ih:=Tu (l:=l) (i:=i+1) (a:=a') (b:=b') (λy hy=>MH y (by simp[hy])) (by omega) (by omega);rw[e1,e2] at ih;show Bu _ _ l (i+1) _=_;rw[ih];by_cases hr:kinds l/\∀k∈l,Cn k;rw[Aq hr,Aq (yA.2 ⟨h,hr⟩)];rw[Ar hr,Ar λq=>hr (yA.1 q).2]
  rw[<- wT];by_cases hb0:F4 x z0;rotate_left
  ·rw[Ar hb0];exact stop λq=>hb0 q.2.1
  rw[Aq hb0]
  have one:∀{A B:Option (Lp (Int×Int) (Int×Int) Bool)},x.kind≠7->(Cn x->A.bind (OU (Bu (λi y x=>Ex i y x.1 x.2) (λx=>(x.1,x.2)) l (i+1)))=some (FX (kinds (x::l)/\∀k∈x::l,Cn k) (.inl (((a+De 7 (x::l):Nat):Int),((b+De 8 (x::l):Nat):Int))) (.inr false))) ->
   (FX (((x.kids.length:Nat):Int)=1) ((x.kids[0]?).bind λx2=>(I1 x2).bind λy3=>cond y3 A (some (.rt false))) (some (.rt false))).bind (OU (Bu (λi y x=>Ex i y x.1 x.2) (λx=>(x.1,x.2)) l (i+1)))=some (FX (kinds (x::l)/\∀k∈x::l,Cn k) (.inl (((a+De 7 (x::l):Nat):Int),((b+De 8 (x::l):Nat):Int))) (.inr false)):=by
   intro A B k7 hA;by_cases hl:x.kids.length=1;rotate_left
   ·rw[Ar (by omega)];exact stop λq=>hl (q.2.2.2 k7).1
   rw[Aq (by omega)]
   obtain⟨k,hk⟩:∃k,x.kids=[k]:=by
    generalize x.kids=ks at hl
    match ks,hl with|[k],_=>exact⟨k,rfl⟩
   have h0:x.kids[0]?=some k:=by rw[hk];rfl
   rw[h0];simp only[TC];rw[alK (OE k (by rw[hk];simp))];simp only[TC,B9]
   have hc:Cn x↔He k:=by unfold Cn;constructor;intro q;exact(q.2.2 k7).2 k (by rw[hk];simp);intro q;exact⟨hb0,λh=>absurd h k7,λ_=>⟨hl,λk' OV=>by rw[hk,bbV] at OV;rw[OV];exact q⟩⟩
   by_cases he:He k;rw[Aq he];exact hA (hc.2 he)
   ·rw[Ar he];exact stop λq=>he (hc.1 q.2)
  by_cases k6:x.kind=6;rw[Aq k6];refine one (B:=none) (by omega) λh=>go ⟨by omega,h⟩ (by omega) (by omega) (by simp[De,k6]) (by simp[De,k6]);rw[Ar k6];by_cases k8:x.kind=8;rw[Aq k8,BS (by omega),show((b:Nat):Int)+1=((b+1:Nat):Int) by omega];refine one (B:=none) (by omega) λh=>go ⟨by omega,h⟩ (by omega) (by omega) (by simp[De,k8]) (by simp[De,k8];omega);rw[Ar k8];by_cases k7:x.kind=7
  ·rw[Aq k7]
   have hc:Cn x↔(0 < x.kids.length/\∀k∈x.kids,He k/\Qz k):=by unfold Cn;exact⟨λq=>q.2.1 k7,λq=>⟨hb0,λ_=>q,λh=>absurd k7 h⟩⟩
   rw[<- hc];by_cases h:Cn x;rw[Aq h,BS (by omega),show((a:Nat):Int)+1=((a+1:Nat):Int) by omega];exact go ⟨by omega,h⟩ (by omega) (by omega) (by simp[De,k7];omega) (by simp[De,k7])
   ·rw[Ar h];exact stop λq=>h q.2
  ·rw[Ar k7];exact stop λq=>by have:=q.1;omega
theorem afT(l:List Nd)(MH:∀x∈l,F6 x)(hl:l.length<=9223372036854775807):Ef l=some (mb ((kinds l/\∀k∈l,Cn k)/\De 7 l<=1/\De 8 l=1)):=by have h:=Tu (l:=l) (i:=0) (a:=0) (b:=0) MH (by omega) (by omega);rw[Ef,AZ hl,bbQ];rw[show(((0:Nat):Int))=0 from rfl] at h;rw[h];by_cases hc:kinds l/\∀k∈l,Cn k;rw[Aq hc];simp only[TC,GF,FY,BT,B9,LK,Il];exact Sv ⟨λq=>⟨hc,by omega,by omega⟩,λq=>⟨by omega,by omega⟩⟩;rw[Ar hc];exact NT λq=>hc q.1
theorem kI{n:Nd}(MH:F6 n)(u:Prop):FX (n.kind=2) (FX (n.n=0/\zD n/\zT n/\n.kids=[]) (some (mb u)) (some false)) (FX (n.kind=3) (FX (zD n/\zT n/\n.kids=[]) (FX u (some (mb (1<=n.n/\n.n<=4))) (some false)) (some false)) (FX (n.kind=4) (FX (n.unit=eS/\zD n/\zT n) (FX (1<=n.n/\n.n<=1000000) (FX (1 < ((n.kids.length:Nat):Int)) ((n.kids[0]?).bind λx=>(Gn x).bind λy=>cond y ((U3 n.kids 1 ((n.kids.length:Nat):Int)).bind λl=>(Ef l).bind λy=>some y) (some false)) (some false)) (some false)) (some false)) (some false)))=some (mb ((n.kind=2/\u/\n.n=0/\zD n/\zT n/\n.kids=[])\/(n.kind=3/\u/\(1<=n.n/\n.n<=4)/\zD n/\zT n/\n.kids=[])\/(n.kind=4/\(n.unit=eS/\zD n/\zT n)/\I0 n.n/\∃h cs,n.kids=h::cs/\kinds cs/\De 8 cs=1/\De 7 cs<=1/\N0 h/\∀k∈cs,Cn k))):=by
 obtain⟨wA,nK,OE⟩:=QA MH;by_cases k2:n.kind=2;rw[Aq k2,Il];refine Sv ⟨λ⟨a,b⟩=>.inl ⟨k2,b,a⟩,?_⟩;rintro(a | a | a);exact⟨a.2.2,a.2.1⟩;omega;omega;rw[Ar k2];by_cases k3:n.kind=3;rw[Aq k3,Il,Il];refine Sv ⟨λ⟨a,b,c⟩=>.inr (.inl ⟨k3,b,c,a⟩),?_⟩;rintro(a | a | a);omega;exact⟨a.2.2.2,a.2.1,a.2.2.1⟩;omega;rw[Ar k3];by_cases k4:n.kind=4;rotate_left;rw[Ar k4];refine NT ?_;rintro(a | a | a);omega;omega;omega;rw[Aq k4];by_cases hl:1 < n.kids.length;rotate_left;rw[Ar (show ¬(1:Int) < ((n.kids.length:Nat):Int) by omega),R4,R4];refine NT ?_;rintro(a | a | ⟨_,_,_,h,cs,e,_,e8,_⟩);omega;omega;rw[e] at hl;have:=avB 8 cs;simp at hl;rw[hl] at e8;cases e8;rw[Aq (show(1:Int) < ((n.kids.length:Nat):Int) by omega)];generalize n.kids=ks at *
 match ks,hl with
 |x::l,_=>
 have LG:U3 (x::l) 1 (((x::l).length:Nat):Int)=some l:=by unfold U3;rw[if_pos (by simp only[amN];omega)];simp
 rw[LG];simp only[bbH,TC,aIA,B9];rw[afT l (λy hy=>OE y (by simp[hy])) (by simp at nK;omega)];simp only[TC,Il];refine Sv ⟨?_,?_⟩;rintro⟨a,b,c,⟨d,e⟩,f,g⟩;exact .inr (.inr ⟨k4,a,b,x,l,rfl,d,g,f,c,e⟩);rintro(a | a | ⟨_,a,b,h,cs,e,d,g,f,c,e'⟩);omega;omega;cases e;exact⟨a,b,c,⟨d,e'⟩,f,g⟩
theorem aJM{n:Nd}(MH:F6 n):Ox n=some (mb (GD n)):=by
 have c1:=kI MH True;simp only[Aq trivial,<- mbT] at c1;have c2:=kI MH (n.unit=Dw);rw[Ox];simp only[apC,aCN,aGJ,aGL,auQ,PG,TC,BT,FW,HV,B9];rw[c1,c2]
 have aPP:∀{un:ByteArray}{k:Int},F4 n ⟨0,n.name,un,k,0,0,0,⟨0,[]⟩,[],0⟩↔n.unit=un/\n.n=k/\zD n/\zT n:=by intro un k;unfold zD zT;rw[eqN];simp only[true_and,and_assoc]
 simp only[Il,axK];refine Sv ?_;unfold GD ajS;simp only[aPP,yJ,true_and];constructor;rintro⟨hn,h1,h2⟩
 have uni:∀{k:Prop},(KP n.unit->((n.kind=2/\n.n=0/\zD n/\zT n/\n.kids=[])\/(n.kind=3/\(1<=n.n/\n.n<=4)/\zD n/\zT n/\n.kids=[])\/(n.kind=4/\(n.unit=eS/\zD n/\zT n)/\I0 n.n/\∃h cs,n.kids=h::cs/\kinds cs/\De 8 cs=1/\De 7 cs<=1/\N0 h/\∀k∈cs,Cn k)))->KP n.unit->((n.kind=2/\KB n.name/\KP n.unit/\n.kids=[]/\n.n=0/\zD n/\zT n)\/(n.kind=3/\KB n.name/\KP n.unit/\1<=n.n/\n.n<=4/\n.kids=[]/\zD n/\zT n)\/(n.kind=4/\I0 n.n/\KB n.name/\(n.unit=eS/\zD n/\zT n)/\∃h cs,n.kids=h::cs/\kinds cs/\De 8 cs=1/\De 7 cs<=1/\N0 h/\∀k∈cs,Cn k)):=by
  intro _ h hu;rcases h hu with ⟨a,b,c,d,e⟩ | ⟨a,b,c,d,e⟩ | ⟨a,b,c,d⟩
  exact .inl ⟨a,hn,hu,e,b,c,d⟩;exact .inr (.inl ⟨a,hn,hu,b.1,b.2,e,c,d⟩);exact .inr (.inr ⟨a,c,hn,b,d⟩)
 by_cases hc:iG n.unit;exact uni (k:=True) (λ_=>h1 hc) (.inr (.inr (.inr hc)));obtain⟨h3,h4⟩:=h2 hc;by_cases ht:n.unit=Ey;exact uni (k:=True) (λ_=>h3 ht) (.inl ht);obtain⟨h5,h6⟩:=h4 ht;by_cases hm:n.unit=CW;exact uni (k:=True) (λ_=>h5 hm) (.inr (.inl hm));rcases h6 hm with ⟨a,b,r⟩ | ⟨a,b,r⟩ | r
 exact uni (k:=True) (λ_=>.inl ⟨a,r⟩) (.inr (.inr (.inl b)));exact uni (k:=True) (λ_=>.inr (.inl ⟨a,r⟩)) (.inr (.inr (.inl b)));exact .inr (.inr ⟨r.1,r.2.2.1,hn,r.2.1,r.2.2.2⟩)
 have back:(n.kind=2/\KB n.name/\KP n.unit/\n.kids=[]/\n.n=0/\zD n/\zT n)\/(n.kind=3/\KB n.name/\KP n.unit/\1<=n.n/\n.n<=4/\n.kids=[]/\zD n/\zT n)\/(n.kind=4/\I0 n.n/\KB n.name/\(n.unit=eS/\zD n/\zT n)/\∃h cs,n.kids=h::cs/\kinds cs/\De 8 cs=1/\De 7 cs<=1/\N0 h/\∀k∈cs,Cn k)->KB n.name/\(n.kind≠4->KP n.unit)/\((n.kind=2/\n.n=0/\zD n/\zT n/\n.kids=[])\/(n.kind=3/\(1<=n.n/\n.n<=4)/\zD n/\zT n/\n.kids=[])\/(n.kind=4/\(n.unit=eS/\zD n/\zT n)/\I0 n.n/\∃h cs,n.kids=h::cs/\kinds cs/\De 8 cs=1/\De 7 cs<=1/\N0 h/\∀k∈cs,Cn k)):=by rintro(⟨a,b,c,d,e,f,g⟩ | ⟨a,b,c,d,d',e,f,g⟩ | ⟨a,b,c,d,e⟩);exact⟨b,λ_=>c,.inl ⟨a,e,f,g,d⟩⟩;exact⟨b,λ_=>c,.inr (.inl ⟨a,⟨d,d'⟩,f,g,e⟩)⟩;exact⟨c,λh=>absurd a h,.inr (.inr ⟨a,d,b,e⟩)⟩
 intro h;obtain⟨hn,hu,r⟩:=back h;refine⟨hn,λ_=>r,λnc=>⟨λ_=>r,λnt=>⟨λ_=>r,λnn=>?_⟩⟩⟩;rcases r with ⟨a,r⟩ | ⟨a,r⟩ | r
 have hm:n.unit=Dw:=by
  rcases hu (by omega) with h | h | h | h
  exact absurd h nt;exact absurd h nn;exact h;exact absurd h nc
 exact .inl ⟨a,hm,r⟩
 have hm:n.unit=Dw:=by
  rcases hu (by omega) with h | h | h | h
  exact absurd h nt;exact absurd h nn;exact h;exact absurd h nc
 exact .inr (.inl ⟨a,hm,r⟩);exact .inr (.inr r)
theorem aeJ{n:Nd}(MH:F6 n):Jg n=some (mb (oG n)):=by
 obtain⟨wA,nK,OE⟩:=QA MH;rw[Jg,aHE n MH,alK MH];simp only[TC,B9,BT];unfold oG;by_cases hf:Ds n<=2000/\Ob n<=40;rotate_left;rw[Ar hf];exact NT λq=>hf q.2;rw[Aq hf];by_cases k1:n.kind=1
 rw[Aq k1,OY (v:=false) (P:=λ_ k=>GD k) nK (λi k hk=>by
  simp only[TZ];rw[aJM (OE k (aUV hk))];simp only[TC,B9,sD]),mN]
 simp only[TC,Il,VK];refine Sv ⟨λq=>⟨.inl ⟨k1,(wT n).2 q.2,q.1⟩,hf⟩,?_⟩;rintro⟨a | a,_⟩;exact⟨a.2.2,(wT n).1 a.2.1⟩;exact absurd k1 a.1;rw[Ar k1];refine Sv ⟨λq=>⟨.inr ⟨k1,q⟩,hf⟩,?_⟩;rintro⟨a | a,_⟩;exact absurd a.1 k1;exact a.2
end Mo
end Go.Proofs.YtkcimienkafhmaaGreatDoor
