/- Part of a proof: see the last text. -/
import Derived.Test.YtpbkhogolfegfaaGreatDoorPph
import Derived.Test.YtpbkhogolfegfaaGreatDoorChecked
import Derived.WalkKit
import Derived.WalkLawsBesides
import Derived.WalkSpells
import Derived.Lib.Hide
import Derived.Laws.Rows
set_option linter.unusedVariables false
set_option linter.unusedSimpArgs false
set_option linter.defProp false
noncomputable section
namespace Go.Proofs.YtpbkhogolfegfaaGreatDoor
open Go.RowKit LexS
def IB:Array Value:=(Gj.map λy=>Value.string ⟨y.toArray⟩).toArray
def Nx(w:World):Prop:=(∀i,i < 128->w.cell? ⟨3,i,none⟩=some (.int .u8 (Me i)))/\(∀(j:Nat) v,IB.toList[j]?=some v->w.cell? ⟨0,j,none⟩=some v)
def Nx.Me{w:World}(h:Nx w)(i:Nat)(hi:i < 128):w.cell? ⟨3,i,none⟩=some (.int .u8 (Me i)):=by
 exact h.1 i hi
def Nx.U3{w w':World}(h:Nx w)(hk:w'.heap[(3:Nat)]?=w.heap[(3:Nat)]?/\w'.heap[(0:Nat)]?=w.heap[(0:Nat)]?):Nx w':=by
 refine⟨λi hi=>?_,λj v hj=>?_⟩;rw[World.cell?_of_block (w:=w) hk.1];exact h.1 i hi;rw[World.cell?_of_block (w:=w) hk.2];exact h.2 j v hj
def TB(n:Nat):Prop:=3 < n/\0 < n
def rK{w:World}{g i:Nat}{v:Value}(h:w.cell? ⟨g,i,none⟩=some v):g < w.heap.size:=by
 unfold World.cell? at h;by_cases hg:g < w.heap.size;exact hg;rw[Array.getElem?_eq_none (by simpa using hg)] at h
 cases h
def Nx.tb{w:World}(h:Nx w):TB w.heap.size:=⟨rK (h.1 0 (by decide)),rK (h.2 0 _ rfl)⟩
def Vt{P:Program}{ops:Array Oper}{rest:List Oper}{o:Oper}{a:Act}{w:World}{Q:Exit->Act->World->Prop}(hgd:o.guard=none)(ty:TypeId)(x:Operand)(ho:o.op=.load ty x)
   (g:Nat) (hx:a.eval x=.pointer (some ⟨g,0,none⟩)) (cs:Array Value) (d:TypeDesc) (hg:∀(j:Nat) v,cs.toList[j]?=some v->w.cell? ⟨g,j,none⟩=some v)
   (hu:P.underlying ty=some d) (hd:(match d with | .struct _ | .array _ _=>true | _=>false)=true) (hi:(P.info? ty).map (·.size)=some cs.size)
   (h:wpList P ops Q rest (a.put o.dst (.agg cs)) w):wpList P ops Q (o::rest) a w:=by
 have hl:(loadCells ⟨g,0,none⟩ cs.toList.length).run P w=.ok cs.toList.toArray w :=
   run_loadCells_list (P:=P) w ⟨g,0,none⟩ cs.toList (λj v hv=>by
     have ajA:(⟨g,0,none⟩:Addr).add j=⟨g,j,none⟩:=by unfold Addr.add;split<;>simp_all
     rw[ajA];exact hg j v hv)
 have ND:(loadVar ty ⟨g,0,none⟩).run P w=.ok (.agg cs) w:=by
   cases hq:P.info? ty with
   | none=>simp[hq] at hi
   | some i =>
     have hs:i.size=cs.size:=by simpa[hq] using hi
     have apy:(isAgg ty).run P w=.ok true w:=by
       unfold isAgg;rw[Sem.run_bind,run_underlying hu w];cases d<;>simp_all
     simp only[Array.length_toList,Array.toArray_toList] at hl;simp[loadVar,Sem.run_bind,apy,Go.sizeOf,typeInfo,hq,hs,hl]
 refine wpList_plain hgd λ_ hK=>?_;unfold Oper.wp execOp;simp only[ho,hx,Instr.loadAt,Instr.sureAddr,Sem.run_bind,Sem.run_pure,Result.andThen_ok,ND];exact hK _ _ h
abbrev L(s:ByteArray):List UInt8:=s.data.toList
def QR(s:ByteArray)(k:Nat)(h:k < s.size):(L s).drop k=s[k]::(L s).drop (k+1):=by
 rw[List.drop_eq_getElem_cons (by simpa using h)];rfl
def Ym(s:ByteArray)(k:Nat)(h:s.size<=k):(L s).drop k=[]:=by
 rw[List.drop_eq_nil_iff];simpa using h
def okm(m:Nat):Bool:=m == 1||m == 2||m == 4||m == 8||m == 26||m == 30
def aaz(n:Nat):Me n=0\/Me n=1\/Me n=2\/Me n=4\/Me n=8\/Me n=16:=by
 unfold Me;repeat (split;simp)
 simp
def dL(n:Nat)(h:128<=n):Me n=0:=by
 unfold Me;rw[if_neg (by omega),if_neg (by omega),if_neg (by omega),if_neg (by omega),if_neg (by omega)]
def aal(n m:Nat)(hm:okm m=true):(bits BinOp.and IntKind.u8 (Me n:Int) (m:Int) != 0)=((Me n &&& m) != 0):=by
 have hO:m=1\/m=2\/m=4\/m=8\/m=26\/m=30:=by simp[okm] at hm;omega
 rcases aaz n with h | h | h | h | h | h<;>rw[h]<;>rcases hO with rfl | rfl | rfl | rfl | rfl | rfl<;>decide
set_option maxHeartbeats 400000 in
def Jf(s:ByteArray)(a:Int)(m:Nat)(w:World)(hT:Nx w)(h0:0<=a)(hm:okm m=true) :
   Calls Tryz.prog 152 #[.string s,.int .i64 a,.int .u8 m] w λe w'=>e=.returned (.bool (GO m ((L s).drop a.toNat)))/\w=w':=by
 obtain⟨k,rfl⟩:=Int.eq_ofNat_of_zero_le h0;rw[Int.toNat_natCast];by_cases ha:k < s.size;have e1:GO m ((L s).drop k)=cin m s[k]:=by rw[QR s k ha];rfl
 have E1:=Lib.hid e1;clear e1;have HM:=Lib.hid hm;clear hm;by_cases arl:(s[k].toNat:Int) < 128;have hc:=hT.Me s[k].toNat (by omega)
 go_enter Tryz.func152,Tryz.ntmps152
 go_wp2
 go_ret
 refine⟨?_,rfl⟩;rw[E1.out];have:=aal s[k].toNat m HM.out;exact congrArg (λb=>Ending.returned (.bool b)) this;have e2:cin m s[k]=false:=by unfold cin;rw[dL _ (by omega)];simp
 have E2:=Lib.hid e2;clear e2
 go_enter Tryz.func152,Tryz.ntmps152
 go_wp2
 go_ret
 exact⟨by rw[E1.out,E2.out];rfl,rfl⟩;have e1:GO m ((L s).drop k)=false:=by rw[Ym s k (by omega)];rfl
 have E1:=Lib.hid e1;clear e1
 go_enter Tryz.func152,Tryz.ntmps152
 go_wp2
 go_ret
 exact⟨by rw[E1.out];rfl,rfl⟩
def lH(m:Nat)(s:ByteArray)(k:Nat)(h:GO m ((L s).drop k)=true):k+Be m ((L s).drop k)=k+1+Be m ((L s).drop (k+1))/\k < s.size:=by
 by_cases hk:k < s.size;rw[QR s k hk] at h ⊢;have h':cin m s[k]=true:=h;refine⟨?_,hk⟩;unfold Be;rw[List.takeWhile_cons,if_pos h'];simp;omega;rw[Ym s k (by omega)] at h;simp[GO] at h
def acW(m:Nat)(t:List UInt8)(h:GO m t=false):Be m t=0:=by
 cases t with
 | nil=>rfl
 | cons c t=>unfold Be;rw[List.takeWhile_cons];have:cin m c=false:=h;simp[this]
def Zl(m:Nat)(t:List UInt8):Be m t<=t.length:=by
 unfold Be;exact(List.takeWhile_prefix _).length_le
set_option maxHeartbeats 400000 in
def Rg(s:ByteArray)(a:Int)(m:Nat)(w:World)(hs:s.size<=9223372036854775806)(hT:Nx w)(h0:0<=a)(hm:okm m=true) :
   Calls Tryz.prog 150 #[.string s,.int .i64 a,.int .u8 m] w λe w'=>e=.returned (.int .i64 (a+Be m ((L s).drop a.toNat):Int))/\w=w':=by
 obtain⟨k0,rfl⟩:=Int.eq_ofNat_of_zero_le h0;rw[Int.toNat_natCast];have HM:=Lib.hid hm;clear hm
 go_enter Tryz.func150,Tryz.ntmps150
 go_wp2_with fail
 go_loop [1] (λi=>∃k:Nat,Hid (k+Be m ((L s).drop k)=k0+Be m ((L s).drop k0))/\i=.int .i64 k) (λi=>s.size - (intOf i).toNat)
 case UH=>exact⟨k0,Lib.hid rfl,rfl⟩
 case round =>
   obtain⟨k,HK,rfl⟩:=abG;cases hb:GO m ((L s).drop k) with
   | true =>
     obtain⟨e1,Gm⟩:=lH m s k hb;have E1:=Lib.hid e1;clear e1;have HB:=Lib.hid hb;clear hb
     go_wp2_with fail
     refine(Jf s _ m _ hT (by omega) HM.out).mono ?_;rintro e w' ⟨rfl,rfl⟩;rw[Int.toNat_natCast,HB.out]
     go_wp2_with fail
     go_round
     case rel=>exact⟨k+1,Lib.hid (by rw[<- HK.out,E1.out]),by go_num⟩
     case measure=>simp[intOf];omega
   | false =>
     have HB:=Lib.hid hb;clear hb
     go_wp2_with fail
     refine(Jf s _ m _ hT (by omega) HM.out).mono ?_;rintro e w' ⟨rfl,rfl⟩;rw[Int.toNat_natCast,HB.out]
     go_wp2_with fail
     go_ret
     refine⟨?_,rfl⟩;have h1:=HK.out;rw[acW m _ HB.out] at h1;exact congrArg (λn:Int=>Ending.returned (.int .i64 n)) (by omega)
end Go.Proofs.YtpbkhogolfegfaaGreatDoor
