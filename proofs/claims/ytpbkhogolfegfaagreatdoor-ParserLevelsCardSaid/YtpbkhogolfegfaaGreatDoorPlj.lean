/- Part of a proof: see the last text. -/
import Derived.Test.YtpbkhogolfegfaaGreatDoorPli
import Derived.Test.YtpbkhogolfegfaaGreatDoorChecked
import Derived.WalkKit
import Derived.WalkLawsBesides
import Derived.WalkSpells
import Derived.Lib.Hide
import Derived.Laws.Rows
set_option linter.unusedVariables false
set_option linter.unusedSimpArgs false
set_option linter.defProp false
noncomputable section
namespace Go.Proofs.YtpbkhogolfegfaaGreatDoor
open Go.RowKit LexS
def Iu:Array Value:=(Gq.map λy=>Value.string ⟨y.toArray⟩).toArray
def ML(w:World):Prop:=(∀i,i < 128->w.cell? ⟨3,i,none⟩=some (.int .u8 (P5 i)))/\(∀(j:Nat) v,Iu.toList[j]?=some v->w.cell? ⟨0,j,none⟩=some v)
def ML.P5{w:World}(h:ML w)(i:Nat)(hi:i < 128):w.cell? ⟨3,i,none⟩=some (.int .u8 (P5 i)):=by
 exact h.1 i hi
def ML.G3{w w':World}(h:ML w)(hk:w'.heap[(3:Nat)]?=w.heap[(3:Nat)]?/\w'.heap[(0:Nat)]?=w.heap[(0:Nat)]?):ML w':=by
 refine⟨λi hi=>?_,λj v hj=>?_⟩
 · rw[World.cell?_of_block (w:=w) hk.1];exact h.1 i hi
 · rw[World.cell?_of_block (w:=w) hk.2];exact h.2 j v hj
def TB(n:Nat):Prop:=3 < n/\0 < n
def rL{w:World}{g i:Nat}{v:Value}(h:w.cell? ⟨g,i,none⟩=some v):g < w.heap.size:=by
 unfold World.cell? at h;by_cases hg:g < w.heap.size
 · exact hg
 · rw[Array.getElem?_eq_none (by simpa using hg)] at h
   cases h
def ML.tb{w:World}(h:ML w):TB w.heap.size:=⟨rL (h.1 0 (by decide)),rL (h.2 0 _ rfl)⟩
def U0{P:Program}{ops:Array Oper}{rest:List Oper}{o:Oper}{a:Act}{w:World}{Q:Exit->Act->World->Prop}(hgd:o.guard=none)(ty:TypeId)(x:Operand)(ho:o.op=.load ty x)
   (g:Nat) (hx:a.eval x=.pointer (some ⟨g,0,none⟩)) (cs:Array Value) (d:TypeDesc) (hg:∀(j:Nat) v,cs.toList[j]?=some v->w.cell? ⟨g,j,none⟩=some v)
   (hu:P.underlying ty=some d) (hd:(match d with | .struct _ | .array _ _=>true | _=>false)=true) (hi:(P.info? ty).map (·.size)=some cs.size)
   (h:wpList P ops Q rest (a.put o.dst (.agg cs)) w):wpList P ops Q (o::rest) a w:=by
 have hl:(loadCells ⟨g,0,none⟩ cs.toList.length).run P w=.ok cs.toList.toArray w :=
   run_loadCells_list (P:=P) w ⟨g,0,none⟩ cs.toList (λj v hv=>by
     have hadd:(⟨g,0,none⟩:Addr).add j=⟨g,j,none⟩:=by unfold Addr.add;split<;>simp_all
     rw[hadd];exact hg j v hv)
 have hrow:(loadVar ty ⟨g,0,none⟩).run P w=.ok (.agg cs) w:=by
   cases hq:P.info? ty with
   | none=>simp[hq] at hi
   | some i =>
     have hs:i.size=cs.size:=by simpa[hq] using hi
     have hagg:(isAgg ty).run P w=.ok true w:=by
       unfold isAgg;rw[Sem.run_bind,run_underlying hu w];cases d<;>simp_all
     simp only[Array.length_toList,Array.toArray_toList] at hl;simp[loadVar,Sem.run_bind,hagg,Go.sizeOf,typeInfo,hq,hs,hl]
 refine wpList_plain hgd λ_ hK=>?_;unfold Oper.wp execOp;simp only[ho,hx,Instr.loadAt,Instr.sureAddr,Sem.run_bind,Sem.run_pure,Result.andThen_ok,hrow];exact hK _ _ h
abbrev L(s:ByteArray):List UInt8:=s.data.toList
def P6(s:ByteArray)(k:Nat)(h:k < s.size):(L s).drop k=s[k]::(L s).drop (k+1):=by
 rw[List.drop_eq_getElem_cons (by simpa using h)];rfl
def XU(s:ByteArray)(k:Nat)(h:s.size<=k):(L s).drop k=[]:=by
 rw[List.drop_eq_nil_iff];simpa using h
def okm(m:Nat):Bool:=m == 1||m == 2||m == 4||m == 8||m == 26||m == 30
def abX(n:Nat):P5 n=0\/P5 n=1\/P5 n=2\/P5 n=4\/P5 n=8\/P5 n=16:=by
 unfold P5;repeat (split;simp)
 simp
def cA(n:Nat)(h:128<=n):P5 n=0:=by
 unfold P5;rw[if_neg (by omega),if_neg (by omega),if_neg (by omega),if_neg (by omega),if_neg (by omega)]
def abB(n m:Nat)(hm:okm m=true):(bits BinOp.and IntKind.u8 (P5 n:Int) (m:Int) != 0)=((P5 n &&& m) != 0):=by
 have hm':m=1\/m=2\/m=4\/m=8\/m=26\/m=30:=by simp[okm] at hm;omega
 rcases abX n with h | h | h | h | h | h<;>rw[h]<;>rcases hm' with rfl | rfl | rfl | rfl | rfl | rfl<;>decide
set_option maxHeartbeats 400000 in
def I3(s:ByteArray)(a:Int)(m:Nat)(w:World)(hT:ML w)(h0:0<=a)(hm:okm m=true) :
   Calls Tryz.prog 152 #[.string s,.int .i64 a,.int .u8 m] w λe w'=>e=.returned (.bool (I1 m ((L s).drop a.toNat)))/\w=w':=by
 obtain⟨k,rfl⟩:=Int.eq_ofNat_of_zero_le h0;rw[Int.toNat_natCast];by_cases ha:k < s.size
 · have e1:I1 m ((L s).drop k)=cin m s[k]:=by rw[P6 s k ha];rfl
   have E1:=Lib.hid e1;clear e1;have HM:=Lib.hid hm;clear hm;by_cases h128:(s[k].toNat:Int) < 128
   · have hc:=hT.P5 s[k].toNat (by omega)
     go_enter Tryz.func152,Tryz.ntmps152
     go_wp2
     go_ret
     refine⟨?_,rfl⟩;rw[E1.out];have:=abB s[k].toNat m HM.out;exact congrArg (λb=>Ending.returned (.bool b)) this
   · have e2:cin m s[k]=false:=by unfold cin;rw[cA _ (by omega)];simp
     have E2:=Lib.hid e2;clear e2
     go_enter Tryz.func152,Tryz.ntmps152
     go_wp2
     go_ret
     exact⟨by rw[E1.out,E2.out];rfl,rfl⟩
 · have e1:I1 m ((L s).drop k)=false:=by rw[XU s k (by omega)];rfl
   have E1:=Lib.hid e1;clear e1
   go_enter Tryz.func152,Tryz.ntmps152
   go_wp2
   go_ret
   exact⟨by rw[E1.out];rfl,rfl⟩
def kU(m:Nat)(s:ByteArray)(k:Nat)(h:I1 m ((L s).drop k)=true):k+BE m ((L s).drop k)=k+1+BE m ((L s).drop (k+1))/\k < s.size:=by
 by_cases hk:k < s.size
 · rw[P6 s k hk] at h ⊢
   have h':cin m s[k]=true:=h;refine⟨?_,hk⟩;unfold BE;rw[List.takeWhile_cons,if_pos h'];simp;omega
 · rw[XU s k (by omega)] at h;simp[I1] at h
def ahI(m:Nat)(t:List UInt8)(h:I1 m t=false):BE m t=0:=by
 cases t with
 | nil=>rfl
 | cons c t=>unfold BE;rw[List.takeWhile_cons];have:cin m c=false:=h;simp[this]
def YO(m:Nat)(t:List UInt8):BE m t<=t.length:=by
 unfold BE;exact(List.takeWhile_prefix _).length_le
set_option maxHeartbeats 400000 in
def Qm(s:ByteArray)(a:Int)(m:Nat)(w:World)(hs:s.size<=9223372036854775806)(hT:ML w)(h0:0<=a)(hm:okm m=true) :
   Calls Tryz.prog 150 #[.string s,.int .i64 a,.int .u8 m] w λe w'=>e=.returned (.int .i64 (a+BE m ((L s).drop a.toNat):Int))/\w=w':=by
 obtain⟨k0,rfl⟩:=Int.eq_ofNat_of_zero_le h0;rw[Int.toNat_natCast];have HM:=Lib.hid hm;clear hm
 go_enter Tryz.func150,Tryz.ntmps150
 go_wp2_with fail
 go_loop [1] (λi=>∃k:Nat,Hid (k+BE m ((L s).drop k)=k0+BE m ((L s).drop k0))/\i=.int .i64 k) (λi=>s.size - (intOf i).toNat)
 case atStart=>exact⟨k0,Lib.hid rfl,rfl⟩
 case round =>
   obtain⟨k,HK,rfl⟩:=hrel;cases hb:I1 m ((L s).drop k) with
   | true =>
     obtain⟨e1,hlt⟩:=kU m s k hb;have E1:=Lib.hid e1;clear e1;have HB:=Lib.hid hb;clear hb
     go_wp2_with fail
     refine(I3 s _ m _ hT (by omega) HM.out).mono ?_;rintro e w' ⟨rfl,rfl⟩;rw[Int.toNat_natCast,HB.out]
     go_wp2_with fail
     go_round
     case rel=>exact⟨k+1,Lib.hid (by rw[<- HK.out,E1.out]),by go_num⟩
     case measure=>simp[intOf];omega
   | false =>
     have HB:=Lib.hid hb;clear hb
     go_wp2_with fail
     refine(I3 s _ m _ hT (by omega) HM.out).mono ?_;rintro e w' ⟨rfl,rfl⟩;rw[Int.toNat_natCast,HB.out]
     go_wp2_with fail
     go_ret
     refine⟨?_,rfl⟩;have h1:=HK.out;rw[ahI m _ HB.out] at h1;exact congrArg (λn:Int=>Ending.returned (.int .i64 n)) (by omega)
end Go.Proofs.YtpbkhogolfegfaaGreatDoor
