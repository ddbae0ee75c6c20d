/- Part of a proof: see the last text. -/
import Derived.Test.YtpbkhogolfegfaaGreatDoorPni
import Derived.Test.YtpbkhogolfegfaaGreatDoorChecked
import Derived.WalkKit
import Derived.WalkLawsBesides
import Derived.WalkSpells
import Derived.Lib.Hide
import Derived.Laws.Rows
set_option linter.unusedVariables false
set_option linter.unusedSimpArgs false
set_option linter.defProp false
noncomputable section
open Go.Ending renaming returned->bnS
open Go.Lib renaming hid->bcI
open Go.Sem renaming run_bind->biV
open Go.World renaming cell?_of_block->bmO
open Int renaming eq_ofNat_of_zero_le->bkP,toNat_natCast->biW
open List renaming takeWhile_cons->bmT
namespace Go.Proofs.YtpbkhogolfegfaaGreatDoor
open Go.RowKit LexS
def IC:Array Value:=(Fw.map λy=>Value.string ⟨y.toArray⟩).toArray
def Od(w:World):Prop:=(∀i,i < 128->w.cell? ⟨3,i,none⟩=some (.int .u8 (KX i)))/\(∀(j:Nat) v,IC.toList[j]?=some v->w.cell? ⟨0,j,none⟩=some v)
def Od.KX{w:World}(h:Od w)(i:Nat)(hi:i < 128):w.cell? ⟨3,i,none⟩=some (.int .u8 (KX i)):=by
 exact h.1 i hi
def Od.GY{w w':World}(h:Od w)(hk:w'.heap[(3:Nat)]?=w.heap[(3:Nat)]?/\w'.heap[(0:Nat)]?=w.heap[(0:Nat)]?):Od w':=by
 refine⟨λi hi=>?_,λj v hj=>?_⟩
 · rw[bmO (w:=w) hk.1];exact h.1 i hi
 · rw[bmO (w:=w) hk.2];exact h.2 j v hj
def TB(n:Nat):Prop:=3 < n/\0 < n
def aeP{w:World}{g i:Nat}{v:Value}(h:w.cell? ⟨g,i,none⟩=some v):g < w.heap.size:=by
 unfold World.cell? at h;by_cases hg:g < w.heap.size
 · exact hg
 · rw[Array.getElem?_eq_none (by simpa using hg)] at h
   cases h
def Od.tb{w:World}(h:Od w):TB w.heap.size:=⟨aeP (h.1 0 (by decide)),aeP (h.2 0 _ rfl)⟩
def Yf{P:Program}{ops:Array Oper}{rest:List Oper}{o:Oper}{a:Act}{w:World}{Q:Exit->Act->World->Prop}(hgd:o.guard=none)(ty:TypeId)(x:Operand)(ho:o.op=.load ty x)
   (g:Nat) (hx:a.eval x=.pointer (some ⟨g,0,none⟩)) (cs:Array Value) (d:TypeDesc) (hg:∀(j:Nat) v,cs.toList[j]?=some v->w.cell? ⟨g,j,none⟩=some v)
   (hu:P.underlying ty=some d) (hd:(match d with | .struct _ | .array _ _=>true | _=>false)=true) (hi:(P.info? ty).map (·.size)=some cs.size)
   (h:wpList P ops Q rest (a.put o.dst (.agg cs)) w):wpList P ops Q (o::rest) a w:=by
 have hl:(loadCells ⟨g,0,none⟩ cs.toList.length).run P w=.ok cs.toList.toArray w :=
   run_loadCells_list (P:=P) w ⟨g,0,none⟩ cs.toList (λj v hv=>by
     have hadd:(⟨g,0,none⟩:Addr).add j=⟨g,j,none⟩:=by unfold Addr.add;split<;>simp_all
     rw[hadd];exact hg j v hv)
 have hrow:(loadVar ty ⟨g,0,none⟩).run P w=.ok (.agg cs) w:=by
   cases hq:P.info? ty with
   | none=>simp[hq] at hi
   | some i =>
     have hs:i.size=cs.size:=by simpa[hq] using hi
     have hagg:(isAgg ty).run P w=.ok true w:=by
       unfold isAgg;rw[biV,run_underlying hu w];cases d<;>simp_all
     simp only[Array.length_toList,Array.toArray_toList] at hl;simp[loadVar,biV,hagg,Go.sizeOf,typeInfo,hq,hs,hl]
 refine wpList_plain hgd λ_ hK=>?_;unfold Oper.wp execOp;simp only[ho,hx,Instr.loadAt,Instr.sureAddr,biV,Sem.run_pure,Result.andThen_ok,hrow];exact hK _ _ h
abbrev L(s:ByteArray):List UInt8:=s.data.toList
def R9(s:ByteArray)(k:Nat)(h:k < s.size):(L s).drop k=s[k]::(L s).drop (k+1):=by
 rw[List.drop_eq_getElem_cons (by simpa using h)];rfl
def dU(s:ByteArray)(k:Nat)(h:s.size<=k):(L s).drop k=[]:=by
 rw[List.drop_eq_nil_iff];simpa using h
def okm(m:Nat):Bool:=m == 1||m == 2||m == 4||m == 8||m == 26||m == 30
def aoM(n:Nat):KX n=0\/KX n=1\/KX n=2\/KX n=4\/KX n=8\/KX n=16:=by
 unfold KX;repeat (split;simp)
 simp
def aeQ(n:Nat)(h:128<=n):KX n=0:=by
 unfold KX;rw[if_neg (by omega),if_neg (by omega),if_neg (by omega),if_neg (by omega),if_neg (by omega)]
def anM(n m:Nat)(hm:okm m=true):(bits BinOp.and IntKind.u8 (KX n:Int) (m:Int) != 0)=((KX n &&& m) != 0):=by
 have hm':m=1\/m=2\/m=4\/m=8\/m=26\/m=30:=by simp[okm] at hm;omega
 rcases aoM n with h | h | h | h | h | h<;>rw[h]<;>rcases hm' with rfl | rfl | rfl | rfl | rfl | rfl<;>decide
set_option maxHeartbeats 400000 in
def Jq(s:ByteArray)(a:Int)(m:Nat)(w:World)(hT:Od w)(h0:0<=a)(hm:okm m=true) :
   Calls Tryz.prog 152 #[.string s,.int .i64 a,.int .u8 m] w λe w'=>e=.returned (.bool (F7 m ((L s).drop a.toNat)))/\w=w':=by
 obtain⟨k,rfl⟩:=bkP h0;rw[biW];by_cases ha:k < s.size
 · have e1:F7 m ((L s).drop k)=cin m s[k]:=by rw[R9 s k ha];rfl
   have E1:=bcI e1;clear e1;have HM:=bcI hm;clear hm;by_cases h128:(s[k].toNat:Int) < 128
   · have hc:=hT.KX s[k].toNat (by omega)
     go_enter Tryz.func152,Tryz.ntmps152
     go_wp2
     go_ret
     refine⟨?_,rfl⟩;rw[E1.out];have:=anM s[k].toNat m HM.out;exact congrArg (λb=>bnS (.bool b)) this
   · have e2:cin m s[k]=false:=by unfold cin;rw[aeQ _ (by omega)];simp
     have E2:=bcI e2;clear e2
     go_enter Tryz.func152,Tryz.ntmps152
     go_wp2
     go_ret
     exact⟨by rw[E1.out,E2.out];rfl,rfl⟩
 · have e1:F7 m ((L s).drop k)=false:=by rw[dU s k (by omega)];rfl
   have E1:=bcI e1;clear e1
   go_enter Tryz.func152,Tryz.ntmps152
   go_wp2
   go_ret
   exact⟨by rw[E1.out];rfl,rfl⟩
def yG(m:Nat)(s:ByteArray)(k:Nat)(h:F7 m ((L s).drop k)=true):k+Bf m ((L s).drop k)=k+1+Bf m ((L s).drop (k+1))/\k < s.size:=by
 by_cases hk:k < s.size
 · rw[R9 s k hk] at h ⊢
   have h':cin m s[k]=true:=h;refine⟨?_,hk⟩;unfold Bf;rw[bmT,if_pos h'];simp;omega
 · rw[dU s k (by omega)] at h;simp[F7] at h
def avI(m:Nat)(t:List UInt8)(h:F7 m t=false):Bf m t=0:=by
 cases t with
 | nil=>rfl
 | cons c t=>unfold Bf;rw[bmT];have:cin m c=false:=h;simp[this]
def awC(m:Nat)(t:List UInt8):Bf m t<=t.length:=by
 unfold Bf;exact(List.takeWhile_prefix _).length_le
set_option maxHeartbeats 400000 in
def SG(s:ByteArray)(a:Int)(m:Nat)(w:World)(hs:s.size<=9223372036854775806)(hT:Od w)(h0:0<=a)(hm:okm m=true) :
   Calls Tryz.prog 150 #[.string s,.int .i64 a,.int .u8 m] w λe w'=>e=.returned (.int .i64 (a+Bf m ((L s).drop a.toNat):Int))/\w=w':=by
 obtain⟨k0,rfl⟩:=bkP h0;rw[biW];have HM:=bcI hm;clear hm
 go_enter Tryz.func150,Tryz.ntmps150
 go_wp2_with fail
 go_loop [1] (λi=>∃k:Nat,Hid (k+Bf m ((L s).drop k)=k0+Bf m ((L s).drop k0))/\i=.int .i64 k) (λi=>s.size - (intOf i).toNat)
 case atStart=>exact⟨k0,bcI rfl,rfl⟩
 case round =>
   obtain⟨k,HK,rfl⟩:=hrel;cases hb:F7 m ((L s).drop k) with
   | true =>
     obtain⟨e1,hlt⟩:=yG m s k hb;have E1:=bcI e1;clear e1;have HB:=bcI hb;clear hb
     go_wp2_with fail
     refine(Jq s _ m _ hT (by omega) HM.out).mono ?_;rintro e w' ⟨rfl,rfl⟩;rw[biW,HB.out]
     go_wp2_with fail
     go_round
     case rel=>exact⟨k+1,bcI (by rw[<- HK.out,E1.out]),by go_num⟩
     case measure=>simp[intOf];omega
   | false =>
     have HB:=bcI hb;clear hb
     go_wp2_with fail
     refine(Jq s _ m _ hT (by omega) HM.out).mono ?_;rintro e w' ⟨rfl,rfl⟩;rw[biW,HB.out]
     go_wp2_with fail
     go_ret
     refine⟨?_,rfl⟩;have h1:=HK.out;rw[avI m _ HB.out] at h1;exact congrArg (λn:Int=>bnS (.int .i64 n)) (by omega)
end Go.Proofs.YtpbkhogolfegfaaGreatDoor
