/- Part of a proof: see the last text. -/
import Derived.Test.YtpbkhogolfegfaaGreatDoorPph
import Derived.Test.YtpbkhogolfegfaaGreatDoorChecked
import Derived.WalkKit
import Derived.WalkLawsBesides
import Derived.WalkSpells
import Derived.Lib.Hide
import Derived.Laws.Rows
set_option linter.unusedVariables false
set_option linter.unusedSimpArgs false
set_option linter.defProp false
noncomputable section
namespace Go.Proofs.YtpbkhogolfegfaaGreatDoor
open Go.RowKit LexS
def Iu:Array Value:=(Gc.map λy=>Value.string ⟨y.toArray⟩).toArray
def Nk(w:World):Prop:=(∀i,i < 128->w.cell? ⟨3,i,none⟩=some (.int .u8 (L3 i)))/\(∀(j:Nat) v,Iu.toList[j]?=some v->w.cell? ⟨0,j,none⟩=some v)
def Nk.L3{w:World}(h:Nk w)(i:Nat)(hi:i < 128):w.cell? ⟨3,i,none⟩=some (.int .u8 (L3 i)):=by
 exact h.1 i hi
def Nk.UF{w w':World}(h:Nk w)(hk:w'.heap[(3:Nat)]?=w.heap[(3:Nat)]?/\w'.heap[(0:Nat)]?=w.heap[(0:Nat)]?):Nk w':=by
 refine⟨λi hi=>?_,λj v hj=>?_⟩
 · rw[World.cell?_of_block (w:=w) hk.1];exact h.1 i hi
 · rw[World.cell?_of_block (w:=w) hk.2];exact h.2 j v hj
def TB(n:Nat):Prop:=3 < n/\0 < n
def qS{w:World}{g i:Nat}{v:Value}(h:w.cell? ⟨g,i,none⟩=some v):g < w.heap.size:=by
 unfold World.cell? at h;by_cases hg:g < w.heap.size
 · exact hg
 · rw[Array.getElem?_eq_none (by simpa using hg)] at h
   cases h
def Nk.tb{w:World}(h:Nk w):TB w.heap.size:=⟨qS (h.1 0 (by decide)),qS (h.2 0 _ rfl)⟩
def U6{P:Program}{ops:Array Oper}{rest:List Oper}{o:Oper}{a:Act}{w:World}{Q:Exit->Act->World->Prop}(hgd:o.guard=none)(ty:TypeId)(x:Operand)(ho:o.op=.load ty x)
   (g:Nat) (hx:a.eval x=.pointer (some ⟨g,0,none⟩)) (cs:Array Value) (d:TypeDesc) (hg:∀(j:Nat) v,cs.toList[j]?=some v->w.cell? ⟨g,j,none⟩=some v)
   (hu:P.underlying ty=some d) (hd:(match d with | .struct _ | .array _ _=>true | _=>false)=true) (hi:(P.info? ty).map (·.size)=some cs.size)
   (h:wpList P ops Q rest (a.put o.dst (.agg cs)) w):wpList P ops Q (o::rest) a w:=by
 have hl:(loadCells ⟨g,0,none⟩ cs.toList.length).run P w=.ok cs.toList.toArray w :=
   run_loadCells_list (P:=P) w ⟨g,0,none⟩ cs.toList (λj v hv=>by
     have hadd:(⟨g,0,none⟩:Addr).add j=⟨g,j,none⟩:=by unfold Addr.add;split<;>simp_all
     rw[hadd];exact hg j v hv)
 have hrow:(loadVar ty ⟨g,0,none⟩).run P w=.ok (.agg cs) w:=by
   cases hq:P.info? ty with
   | none=>simp[hq] at hi
   | some i =>
     have hs:i.size=cs.size:=by simpa[hq] using hi
     have hagg:(isAgg ty).run P w=.ok true w:=by
       unfold isAgg;rw[Sem.run_bind,run_underlying hu w];cases d<;>simp_all
     simp only[Array.length_toList,Array.toArray_toList] at hl;simp[loadVar,Sem.run_bind,hagg,Go.sizeOf,typeInfo,hq,hs,hl]
 refine wpList_plain hgd λ_ hK=>?_;unfold Oper.wp execOp;simp only[ho,hx,Instr.loadAt,Instr.sureAddr,Sem.run_bind,Sem.run_pure,Result.andThen_ok,hrow];exact hK _ _ h
abbrev L(s:ByteArray):List UInt8:=s.data.toList
def Qv(s:ByteArray)(k:Nat)(h:k < s.size):(L s).drop k=s[k]::(L s).drop (k+1):=by
 rw[List.drop_eq_getElem_cons (by simpa using h)];rfl
def XY(s:ByteArray)(k:Nat)(h:s.size<=k):(L s).drop k=[]:=by
 rw[List.drop_eq_nil_iff];simpa using h
def okm(m:Nat):Bool:=m == 1||m == 2||m == 4||m == 8||m == 26||m == 30
def aaT(n:Nat):L3 n=0\/L3 n=1\/L3 n=2\/L3 n=4\/L3 n=8\/L3 n=16:=by
 unfold L3;repeat (split;simp)
 simp
def cG(n:Nat)(h:128<=n):L3 n=0:=by
 unfold L3;rw[if_neg (by omega),if_neg (by omega),if_neg (by omega),if_neg (by omega),if_neg (by omega)]
def aaF(n m:Nat)(hm:okm m=true):(bits BinOp.and IntKind.u8 (L3 n:Int) (m:Int) != 0)=((L3 n &&& m) != 0):=by
 have hm':m=1\/m=2\/m=4\/m=8\/m=26\/m=30:=by simp[okm] at hm;omega
 rcases aaT n with h | h | h | h | h | h<;>rw[h]<;>rcases hm' with rfl | rfl | rfl | rfl | rfl | rfl<;>decide
set_option maxHeartbeats 400000 in
def I7(s:ByteArray)(a:Int)(m:Nat)(w:World)(hT:Nk w)(h0:0<=a)(hm:okm m=true) :
   Calls Tryz.prog 152 #[.string s,.int .i64 a,.int .u8 m] w λe w'=>e=.returned (.bool (GH m ((L s).drop a.toNat)))/\w=w':=by
 obtain⟨k,rfl⟩:=Int.eq_ofNat_of_zero_le h0;rw[Int.toNat_natCast];by_cases ha:k < s.size
 · have e1:GH m ((L s).drop k)=cin m s[k]:=by rw[Qv s k ha];rfl
   have E1:=Lib.hid e1;clear e1;have HM:=Lib.hid hm;clear hm;by_cases h128:(s[k].toNat:Int) < 128
   · have hc:=hT.L3 s[k].toNat (by omega)
     go_enter Tryz.func152,Tryz.ntmps152
     go_wp2
     go_ret
     refine⟨?_,rfl⟩;rw[E1.out];have:=aaF s[k].toNat m HM.out;exact congrArg (λb=>Ending.returned (.bool b)) this
   · have e2:cin m s[k]=false:=by unfold cin;rw[cG _ (by omega)];simp
     have E2:=Lib.hid e2;clear e2
     go_enter Tryz.func152,Tryz.ntmps152
     go_wp2
     go_ret
     exact⟨by rw[E1.out,E2.out];rfl,rfl⟩
 · have e1:GH m ((L s).drop k)=false:=by rw[XY s k (by omega)];rfl
   have E1:=Lib.hid e1;clear e1
   go_enter Tryz.func152,Tryz.ntmps152
   go_wp2
   go_ret
   exact⟨by rw[E1.out];rfl,rfl⟩
def kH(m:Nat)(s:ByteArray)(k:Nat)(h:GH m ((L s).drop k)=true):k+Be m ((L s).drop k)=k+1+Be m ((L s).drop (k+1))/\k < s.size:=by
 by_cases hk:k < s.size
 · rw[Qv s k hk] at h ⊢
   have h':cin m s[k]=true:=h;refine⟨?_,hk⟩;unfold Be;rw[List.takeWhile_cons,if_pos h'];simp;omega
 · rw[XY s k (by omega)] at h;simp[GH] at h
def agD(m:Nat)(t:List UInt8)(h:GH m t=false):Be m t=0:=by
 cases t with
 | nil=>rfl
 | cons c t=>unfold Be;rw[List.takeWhile_cons];have:cin m c=false:=h;simp[this]
def YX(m:Nat)(t:List UInt8):Be m t<=t.length:=by
 unfold Be;exact(List.takeWhile_prefix _).length_le
set_option maxHeartbeats 400000 in
def QU(s:ByteArray)(a:Int)(m:Nat)(w:World)(hs:s.size<=9223372036854775806)(hT:Nk w)(h0:0<=a)(hm:okm m=true) :
   Calls Tryz.prog 150 #[.string s,.int .i64 a,.int .u8 m] w λe w'=>e=.returned (.int .i64 (a+Be m ((L s).drop a.toNat):Int))/\w=w':=by
 obtain⟨k0,rfl⟩:=Int.eq_ofNat_of_zero_le h0;rw[Int.toNat_natCast];have HM:=Lib.hid hm;clear hm
 go_enter Tryz.func150,Tryz.ntmps150
 go_wp2_with fail
 go_loop [1] (λi=>∃k:Nat,Hid (k+Be m ((L s).drop k)=k0+Be m ((L s).drop k0))/\i=.int .i64 k) (λi=>s.size - (intOf i).toNat)
 case atStart=>exact⟨k0,Lib.hid rfl,rfl⟩
 case round =>
   obtain⟨k,HK,rfl⟩:=hrel;cases hb:GH m ((L s).drop k) with
   | true =>
     obtain⟨e1,hlt⟩:=kH m s k hb;have E1:=Lib.hid e1;clear e1;have HB:=Lib.hid hb;clear hb
     go_wp2_with fail
     refine(I7 s _ m _ hT (by omega) HM.out).mono ?_;rintro e w' ⟨rfl,rfl⟩;rw[Int.toNat_natCast,HB.out]
     go_wp2_with fail
     go_round
     case rel=>exact⟨k+1,Lib.hid (by rw[<- HK.out,E1.out]),by go_num⟩
     case measure=>simp[intOf];omega
   | false =>
     have HB:=Lib.hid hb;clear hb
     go_wp2_with fail
     refine(I7 s _ m _ hT (by omega) HM.out).mono ?_;rintro e w' ⟨rfl,rfl⟩;rw[Int.toNat_natCast,HB.out]
     go_wp2_with fail
     go_ret
     refine⟨?_,rfl⟩;have h1:=HK.out;rw[agD m _ HB.out] at h1;exact congrArg (λn:Int=>Ending.returned (.int .i64 n)) (by omega)
end Go.Proofs.YtpbkhogolfegfaaGreatDoor
