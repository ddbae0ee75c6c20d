/- Part of a proof: see the last text. -/
import Derived.Test.YtpbkhogolfegfaaGreatDoorPr2
import Derived.Lib.IndexBytes
import Derived.Deep.LoopGhost
import Derived.RangeFuncNested
import Derived.RangeFuncBound
import Derived.RangeFuncCalls
import Derived.RangeFuncLeaves
import Derived.RangeFuncBox
import Derived.Shelf.Abstract
import Derived.Shelf.RegionOpen
import Derived.OwnWalkIn
import Derived.TacticsInMore
import Derived.LoopNIn
import Derived.LoopIn
import Derived.Maps.AppendAt
import Derived.Shelf.Strings.Builder1
import Derived.Shelf.Strings.Builder2
import Derived.Shelf.Strconv.Atoi
import Derived.Shelf.Strconv.Itoa0
import Derived.Shelf.Strconv.Itoa1
import Derived.Shelf.LaysM
import Derived.Shelf.Strconv.Itoa2
import Derived.Shelf.Strconv.Itoa3
import Derived.Shelf.Strconv.AtoiErrFast
import Derived.Shelf.Strconv.ParseIntEmpty
import Derived.Shelf.Strconv.AtoiFail
import Derived.Shelf.Strconv.Clone
import Derived.Shelf.Strconv.SyntaxError
import Derived.Shelf.LaysC
import Derived.Shelf.Strconv.ToError
import Derived.Shelf.Strconv.Lower
import Derived.Shelf.Strconv.ParseUint10
import Derived.Shelf.Strconv.ParseUint10Empty
import Derived.Shelf.Strconv.ParseUint10Any
import Derived.Shelf.Strconv.ParseInt10
import Derived.Shelf.Strconv.AtoiLong
import Derived.Shelf.Strconv.AtoiInnerAll
import Derived.Shelf.Strconv.RangeError
import Derived.Shelf.Strconv.ToErrorRange
import Derived.Shelf.Strconv.AtoiAll
import Derived.Shelf.Strings.Search1
import Derived.Shelf.Strings.Search2
import Derived.Shelf.Strings.Search3
import Derived.Shelf.Strings.Count
import Derived.Shelf.Strings.Shaped
import Derived.Shelf.Strings.Split
import Derived.Shelf.Strings.Replace
import Derived.Shelf.Unicode.DecodeSlow
set_option linter.all false
noncomputable section
open Array renaming replicate_succ->boE,replicate_zero->boF
open Bool renaming false_eq_true->biF
open Go.Boxed renaming new->bqS
open Go.ByteArray renaming toList_eq->boM
open Go.Ending renaming returned->bnL
open Go.Exit renaming noGoto_ret->bsH
open Go.Fence renaming wide->brG
open Go.Instr renaming index->bkA
open Go.IntKind renaming i64->bmL
open Go.KeepsOthers renaming setCell->blQ
open Go.Lib renaming extract_data->bpW,hid->bhH
open Go.OwnFrom renaming and->boG
open Go.Shelf renaming Ren->btJ
open Go.World renaming ownsRow_nil->bpN,size_alloc->bkD
open Int renaming eq_ofNat_of_zero_le->blA,toNat_natCast->biN
open List renaming append_toArray->boN,cons_append->bjR,drop_drop->biU,isPrefixOf->bnK,isPrefixOf_iff_prefix->bkE,length_cons->bhE,length_nil->biV,nil_append->bkC,push_toArray->bpM,size_toArray->bjY
open Nat renaming add_assoc->blB,beq->biS,le_refl->aWP,reduceAdd->brA,reduceSub->brB
open Option renaming bind_some->Uu
open UInt8 renaming toNat_inj->bnI
namespace Go.Proofs.YtpbkhogolfegfaaGreatDoor
open Go.RowKit LexS
def SJ{a b:Bool}(h:a=b):bnL (.bool a)=.returned (.bool b):=by rw[h]
def ahU{k:IntKind}{a b:Int}(h:a=b):bnL (.int k a)=.returned (.int k b):=by rw[h]
def O3(s:ByteArray)(k:Nat):L (s.extract k s.size)=(L s).drop k:=Lib.extract_to_end s k
def afK:L { data:=#[47,47] }=[47,47]:=rfl
set_option maxHeartbeats 400000 in
def I3(a b:ByteArray)(w:World) :
   Calls Tryz.prog 151 #[.string a,.string b] w λe w'=>e=.returned (.bool ((L b).isPrefixOf (L a)))/\w=w':=by
 by_cases h:b.size<=a.size
 ·go_enter Tryz.func151,Tryz.ntmps151
  go_wp2
  go_ret
  refine⟨SJ (a:=((a.extract 0 b.size).toList == b.toList)) ?_,rfl⟩;rw[boM,boM,bpW,OR];simp
 ·go_enter Tryz.func151,Tryz.ntmps151
  go_wp2
  go_ret
  refine⟨SJ (a:=false) ?_,rfl⟩;symm;rw[Bool.eq_false_iff];intro h2;have:=(bkE.1 h2).length_le;simp at this;omega
set_option maxHeartbeats 1000000 in
def aaG(s:ByteArray)(a:Int)(w:World)(hs:s.size<=9223372036854775806)(hT:Ph w)(h0:0<=a)(ha:a<=s.size) :
   Calls Tryz.prog 116 #[.string s,.int .i64 a] w λe w'=>e=.returned (.int .i64 (a+HV ((L s).drop a.toNat):Int))/\w=w':=by
 obtain⟨k0,rfl⟩:=blA h0;rw[biN];have hk0:k0<=s.size:=by omega
 clear ha
 go_enter Tryz.func116,Tryz.ntmps116
 go_wp2_with fail
 go_step3
 go_wp2_with fail
 go_step3
 go_wp2_with fail
 go_loopg [1] (s.size - k0) (λg i wx=>∃k:Nat,w=wx/\k<=s.size/\g=s.size - k/\Hid (k+HV ((L s).drop k)=k0+HV ((L s).drop k0))/\i=.int .i64 k)
 case atStart=>exact⟨k0,rfl,hk0,rfl,bhH rfl,rfl⟩
 case round=>
  obtain⟨k,rfl,hk,rfl,HK,rfl⟩:=hrel
  have hk1:k+Bf 1 ((L s).drop k)<=s.size:=by have:=NY 1 ((L s).drop k);simp at this;omega
  obtain⟨k1,hk1e⟩:∃k1,k1=k+Bf 1 ((L s).drop k):=⟨_,rfl⟩
  have HK1:Hid (k1+HV ((L s).drop k1)=k0+HV ((L s).drop k0)):=by refine bhH ?_;have h1:=HK.out;have h2:=akX ((L s).drop k);rw[biU] at h2;unfold HV at h1 ⊢;rw[hk1e];omega
  have hn1:JC 1 ((L s).drop k1)=false:=by have:=amT 1 ((L s).drop k);rw[biU] at this;rw[hk1e];exact this
  have HN1:=bhH hn1;clear hn1;have hk1':k1<=s.size:=by omega
  have hkk:k<=k1:=by omega
  have HE:=bhH hk1e;clear hk1e hk1
  go_wp2_with fail
  refine(TK s _ 1 _ (by omega) hT (by omega) rfl).mono ?_;rintro e w' ⟨rfl,rfl⟩;rw[biN];rw[show((k:Int)+(Bf 1 ((L s).drop k):Int))=(k1:Int) from by rw[HE.out];omega];clear HE;cases hp:[47,47].isPrefixOf ((L s).drop k1) with
  |false=>
   have HP:=bhH hp;clear hp
   go_wp2_with fail
   refine(I3 _ _ _).mono ?_;rintro e w' ⟨rfl,rfl⟩;rw[O3,afK,HP.out]
   go_wp2_with fail
   rw[bsH]
   go_ret
   refine⟨ahU (a:=(k1:Int)) ?_,rfl⟩;have h1:=HK1.out;have h2:=wN _ HN1.out HP.out;unfold HV at h1 ⊢;omega
  |true=>
   have HP:=bhH hp;clear hp
   go_wp2_with fail
   refine(I3 _ _ _).mono ?_;rintro e w' ⟨rfl,rfl⟩;rw[O3,afK,HP.out]
   have hlen:k1+2<=s.size:=by have:=(bkE.1 HP.out).length_le;simp at this;omega
   have HC:Hid (k1+Kh true ((L s).drop k1)=k0+HV ((L s).drop k0)):=by refine bhH ?_;have h1:=HK1.out;have h2:=Z5 _ HP.out;unfold HV at h1 ⊢;omega
   have hne:Hid (s[k1]≠10):=by refine bhH ?_;have h1:=HP.out;rw[S4 s k1 (by omega)] at h1;simp[bnK] at h1;rw[<- h1.1];decide
   clear HK1 HN1 HP
   go_wp2_with fail
   go_loopg [1] (s.size - k1) (λg i wx=>∃j:Nat,w=wx/\k1<=j/\j<=s.size/\g=s.size - j/\Hid (j=k1\/k1 < j)/\Hid (j+Kh true ((L s).drop j)=k0+HV ((L s).drop k0))/\i=.int .i64 j)
   case atStart=>exact⟨k1,rfl,aWP _,by omega,rfl,bhH (.inl rfl),HC,rfl⟩
   case round=>
    obtain⟨j,rfl,hj1,hj2,rfl,HJ,HR,rfl⟩:=hrel;by_cases hlt:j < s.size
    ·by_cases hnl:s[j]=10
     ·have hb:((s[j].toNat:Int) == 10)=true:=by rw[hnl];rfl
      have hjk:k1 < j:=by
       rcases HJ.out with h | h
       ·subst h;exact absurd hnl hne.out
       ·exact h
      have HNL:=bhH hnl;clear hnl
      go_wp2_with fail
      go_roundg (s.size - j)
      case measure=>omega
      case rel=>
       refine⟨j,rfl,by omega,rfl,bhH ?_,rfl⟩;have h1:=HR.out;rw[S4 s j hlt,HNL.out,wM,<- HNL.out,<- S4 s j hlt] at h1;exact h1
     ·have hb:((s[j].toNat:Int) == 10)=false:=by
       rw[beq_eq_false_iff_ne];intro h;apply hnl;exact bnI.1 (by have:(10:UInt8).toNat=10:=rfl;omega)
      have HNL:=bhH hnl;clear hnl
      go_wp2_with fail
      go_roundg (s.size - (j+1))
      case measure=>omega
      case rel=>
       refine⟨j+1,rfl,by omega,by omega,rfl,bhH (.inr (by omega)),bhH ?_,by go_num⟩;have h1:=HR.out;rw[S4 s j hlt,aqT _ _ HNL.out] at h1;omega
    ·have hge:s.size<=j:=by omega
     go_wp2_with fail
     rw[bsH]
     go_ret
     refine⟨ahU (a:=(j:Int)) ?_,rfl⟩;have h1:=HR.out;rw[fZ s j hge] at h1;simp only[Kh] at h1;omega
def TZ:L { data:=#[46] }=[46]:=rfl
def afS{c d:UInt8}(h:c=d):((c.toNat:Int) == (d.toNat:Int))=true:=by rw[h];simp
def azT{c d:UInt8}(h:c≠d):((c.toNat:Int) == (d.toNat:Int))=false:=by rw[beq_eq_false_iff_ne];intro e;exact h (bnI.1 (by omega))
def aoW{c d:UInt8}(h:c≠d):((c.toNat:Int) != (d.toNat:Int))=true:=by rw[bne_iff_ne];intro e;exact h (bnI.1 (by omega))
def aoV{c d:UInt8}(h:c=d):((c.toNat:Int) != (d.toNat:Int))=false:=by rw[h];simp
def aMI(s:ByteArray)(k i:Nat)(h:k+i < s.size):((L s).drop k)[i]?=some (s[k+i]):=by rw[List.getElem?_drop,List.getElem?_eq_getElem (by simpa using h)];rfl
def wV(s:ByteArray)(k:Nat)(h:k < s.size):((L s).drop k).head?=some (s[k]):=by rw[S4 s k h];rfl
def Oe(s:ByteArray)(k:Nat):((L s).drop k).length=s.size - k:=by simp
def apW(t:List UInt8)(hl:10<=t.length)(h:∀j,j < 10->I5 t j=true):Il t=true:=by unfold Il;simp only[hl,decide_true,Bool.true_and,List.all_eq_true,List.mem_range];exact h
def afW(t:List UInt8)(i:Nat)(hi:i < 10)(h:I5 t i=false):Il t=false:=by unfold Il;rw[Bool.and_eq_false_iff];right;rw[List.all_eq_false];exact⟨i,by simpa using hi,by simp[h]⟩
set_option maxHeartbeats 1000000 in
def adA(s:ByteArray)(a:Int)(w:World)(hs:s.size<=6000)(hT:Ph w)(h0:0<=a)(ha:a<=s.size) :
   Calls Tryz.prog 171 #[.string s,.int .i64 a] w λe w'=>e=.returned (.bool (Il ((L s).drop a.toNat)))/\w=w':=by
 obtain⟨k,rfl⟩:=blA h0;rw[biN];by_cases hl:s.size < k+10
 ·go_enter Tryz.func171,Tryz.ntmps171
  go_wp2_with fail
  go_ret
  refine⟨SJ (a:=false) ?_,rfl⟩;unfold Il;rw[Oe];simp;omega
 ·have hl10:k+10<=s.size:=by omega
  clear hl
  go_enter Tryz.func171,Tryz.ntmps171
  go_wp2_with fail
  go_loopg [11] 10 (λg x wx=>∃i:Nat,w=wx/\i<=10/\g=10 - i/\Hid (∀j,j < i->I5 ((L s).drop k) j=true)/\x=.int .i64 i)
  case atStart=>exact⟨0,rfl,by omega,rfl,bhH (by omega),rfl⟩
  case round=>
   obtain⟨i,rfl,hi,rfl,HI,rfl⟩:=hrel;by_cases hi10:i < 10
   ·by_cases h47:i=4\/i=7
    ·have hd:Hid (I5 ((L s).drop k) i=(some s[k+i] == some 45)):=by
      refine bhH ?_;unfold I5;rw[if_pos h47,aMI s k i (by omega)]
     have hsel:((i:Int) == 4)=true\/(((i:Int) == 4)=false/\((i:Int) == 7)=true):=by
      rcases h47 with rfl | rfl
      ·left;rfl
      ·right;exact⟨rfl,rfl⟩
     clear h47;by_cases hm:s[k+i]=45
     ·have hb:((s[k+i].toNat:Int) != 45)=false:=aoV hm
      have HM:=bhH hm;clear hm;rcases hsel with h4 | ⟨h4,h7⟩
      all_goals
        go_wp2_with fail
        go_roundg (10 - (i+1))
        case measure=>omega
        case rel=>
         refine⟨i+1,rfl,by omega,rfl,bhH ?_,by go_num⟩;intro j hj;by_cases hji:j=i
         ·subst hji;rw[hd.out,HM.out];rfl
         ·exact HI.out j (by omega)
     ·have hb:((s[k+i].toNat:Int) != 45)=true:=aoW hm
      have HM:=bhH hm;clear hm;rcases hsel with h4 | ⟨h4,h7⟩
      all_goals
        go_wp2_with fail
        go_ret
        refine⟨SJ (a:=false) ?_,rfl⟩;symm;refine afW _ i hi10 ?_;rw[hd.out];simpa using HM.out
    ·have hd:Hid (I5 ((L s).drop k) i=JC 8 ((L s).drop (k+i))):=by
      refine bhH ?_;unfold I5;rw[if_neg h47,biU]
     have h4:((i:Int) == 4)=false:=by rw[beq_eq_false_iff_ne];omega
     have h7:((i:Int) == 7)=false:=by rw[beq_eq_false_iff_ne];omega
     clear h47;cases hb:JC 8 ((L s).drop (k+i)) with
     |true=>
      have HB:=bhH hb;clear hb
      go_wp2_with fail
      refine(JZ s _ 8 _ hT (by omega) rfl).mono ?_;rintro e w' ⟨rfl,rfl⟩;rw[show((k:Int)+(i:Int)).toNat=k+i from by omega,HB.out]
      go_wp2_with fail
      go_roundg (10 - (i+1))
      case measure=>omega
      case rel=>
       refine⟨i+1,rfl,by omega,rfl,bhH ?_,by go_num⟩;intro j hj;by_cases hji:j=i
       ·subst hji;rw[hd.out,HB.out]
       ·exact HI.out j (by omega)
     |false=>
      have HB:=bhH hb;clear hb
      go_wp2_with fail
      refine(JZ s _ 8 _ hT (by omega) rfl).mono ?_;rintro e w' ⟨rfl,rfl⟩;rw[show((k:Int)+(i:Int)).toNat=k+i from by omega,HB.out]
      go_wp2_with fail
      go_ret
      refine⟨SJ (a:=false) ?_,rfl⟩;symm;refine afW _ i hi10 ?_;rw[hd.out,HB.out]
   ·have hge:10<=i:=by omega
    go_wp2_with fail
    go_ret
    refine⟨SJ (a:=true) ?_,rfl⟩;symm;refine apW _ (by rw[Oe];omega) ?_;intro j hj;exact HI.out j (by omega)
def VW(k:Nat)(r:Nat×Nat):Value:=if r.1=0 then .tuple #[.int .i64 0,.int .i64 0] else .tuple #[.int .i64 r.1,.int .i64 ((k+r.2:Nat):Int)]
def F9{k:Nat}{r:Nat×Nat}{v:Value}(h:v=VW k r):bnL v=.returned (VW k r):=by rw[h]
def aPI(m:Nat)(s:ByteArray)(k:Nat)(h:JC m ((L s).drop k)=true):k < s.size:=(aaB m s k h).2
def qX(t:List UInt8)(h1:JC 30 t=false)(h2:[46].isPrefixOf t=false):free t=true:=by
 unfold free;cases t with
 |nil=>rfl
 |cons c t=>
  simp only[h1,Bool.false_or,List.head?_cons];have:¬(46=c):=by simpa[bnK] using h2
  simp[Ne.symm this]
def Zm(t:List UInt8)(h1:JC 30 t=true):free t=false:=by unfold free;simp[h1]
def Zn(t:List UInt8)(h2:[46].isPrefixOf t=true):free t=false:=by unfold free;obtain⟨u,rfl⟩:=bkE.1 h2;simp
def wB(t:List UInt8):[46].isPrefixOf t=true↔t.head?=some 46:=by cases t with|nil=>simp|cons c t=>simp[bnK];exact eq_comm
set_option maxHeartbeats 2000000 in
def wH(s:ByteArray)(a:Int)(w:World)(hs:s.size<=6000)(hT:Ph w)(h0:0<=a)(ha:a < s.size) :
   Calls Tryz.prog 153 #[.string s,.int .i64 a] w λe w'=>e=.returned (VW a.toNat (Ik ((L s).drop a.toNat)))/\w=w':=by
 obtain⟨k,rfl⟩:=blA h0;rw[biN];have hk:k < s.size:=by omega
 clear ha;obtain⟨d,hd⟩:∃d,d=Bf 8 ((L s).drop k):=⟨_,rfl⟩;have hdl:k+d<=s.size:=by rw[hd];have:=NY 8 ((L s).drop k);rw[Oe] at this;omega
 have HD:=bhH hd;clear hd
 go_enter Tryz.func153,Tryz.ntmps153
 go_wp2_with fail
 refine(TK s _ 8 _ (by omega) hT (by omega) rfl).mono ?_;rintro e w' ⟨rfl,rfl⟩;rw[biN,<- HD.out]
 go_wp2_with fail
 refine(adA s _ _ hs hT (by omega) (by omega)).mono ?_;rintro e w' ⟨rfl,rfl⟩;rw[biN];cases hdt:Il ((L s).drop k) with
 |true=>
  have hl10:k+10<=s.size:=by have:=hdt;unfold Il at this;rw[Oe] at this;simp at this;omega
  have HF:Hid (Ik ((L s).drop k)=if free ((L s).drop (k+10)) then (5,10) else (0,0)):=by refine bhH ?_;unfold Ik;simp only[hdt,if_true,biU]
  clear hdt
  go_wp2_with fail
  cases hw:JC 30 ((L s).drop (k+10)) with
  |true=>
   have HW:=bhH hw;clear hw;refine(JZ s _ 30 _ hT (by omega) rfl).mono ?_;rintro e w' ⟨rfl,rfl⟩;rw[show((k:Int)+10).toNat=k+10 from by omega,HW.out]
   go_wp2_with fail
   go_ret2
   refine⟨F9 ?_,rfl⟩;rw[HF.out,Zm _ HW.out];rfl
  |false=>
   have HW:=bhH hw;clear hw;refine(JZ s _ 30 _ hT (by omega) rfl).mono ?_;rintro e w' ⟨rfl,rfl⟩;rw[show((k:Int)+10).toNat=k+10 from by omega,HW.out];cases hp:[46].isPrefixOf ((L s).drop (k+10)) with
   |true=>
    have HP:=bhH hp;clear hp
    go_wp2_with fail
    refine(I3 _ _ _).mono ?_;rintro e w' ⟨rfl,rfl⟩;rw[O3,TZ,HP.out]
    go_wp2_with fail
    go_ret2
    refine⟨F9 ?_,rfl⟩;rw[HF.out,Zn _ HP.out];rfl
   |false=>
    have HP:=bhH hp;clear hp
    go_wp2_with fail
    refine(I3 _ _ _).mono ?_;rintro e w' ⟨rfl,rfl⟩;rw[O3,TZ,HP.out]
    go_wp2_with fail
    go_ret2
    refine⟨F9 ?_,rfl⟩;rw[HF.out,qX _ HW.out HP.out];simp[VW]
    try omega
 |false=>
  have HDT:=bhH hdt;clear hdt;by_cases hz:s[k]=48/\1 < d
  ·obtain⟨hz0,hd1⟩:=hz
   have hb:((s[k].toNat:Int) == 48)=true:=afS hz0
   have HF:Hid (Ik ((L s).drop k)=(0,0)):=by refine bhH ?_;unfold Ik;simp only[HDT.out,biF,if_false,<- HD.out,wV s k hk,hz0,hd1,and_self,if_true]
   clear hz0
   go_wp2_with fail
   go_ret2
   refine⟨F9 ?_,rfl⟩;rw[HF.out];rfl
  ·have hbb:((s[k].toNat:Int) == 48)=false\/(((s[k].toNat:Int) == 48)=true/\d<=1):=by
    by_cases h48:s[k]=48
    ·right;exact⟨afS h48,by have:¬1 < d:=λh=>hz ⟨h48,h⟩;omega⟩
    ·left;exact azT h48
   have HZ:Hid (¬(((L s).drop k).head?=some 48/\1 < d)):=by refine bhH ?_;rw[wV s k hk];rintro⟨h1,h2⟩;exact hz ⟨by simpa using h1,h2⟩
   clear hz;cases hp:[46].isPrefixOf ((L s).drop (k+d)) with
   |true=>
    have HP:=bhH hp;clear hp;have HP':Hid ((((L s).drop k).drop d).head?=some 46):=bhH (by rw[biU];exact(wB _).1 HP.out);by_cases hd10:10 < d
    ·have HF:Hid (Ik ((L s).drop k)=(0,0)):=by
      refine bhH ?_;unfold Ik;simp only[HDT.out,biF,if_false,<- HD.out];rw[if_neg HZ.out,if_pos HP'.out,if_pos (.inl hd10)]
     have hb:=hbb.resolve_right (by omega);clear hbb
     go_wp2_with fail
     refine(I3 _ _ _).mono ?_;rintro e w' ⟨rfl,rfl⟩;rw[O3,TZ,HP.out]
     go_wp2_with fail
     go_ret2
     refine⟨F9 ?_,rfl⟩;rw[HF.out];rfl
    ·cases h1:JC 8 ((L s).drop (k+d+1)) with
     |false=>
      have HF:Hid (Ik ((L s).drop k)=(0,0)):=by refine bhH ?_;unfold Ik;simp only[HDT.out,biF,if_false,<- HD.out];rw[if_neg HZ.out,if_pos HP'.out,if_pos (.inr (.inl (by rw[biU,<- blB];exact h1)))]
      have H1:=bhH h1;clear h1;rcases hbb with hb | ⟨hb,hd1⟩
      all_goals
        go_wp2_with fail
        refine(I3 _ _ _).mono ?_;rintro e w' ⟨rfl,rfl⟩;rw[O3,TZ,HP.out]
        go_wp2_with fail
        refine(JZ s _ 8 _ hT (by omega) rfl).mono ?_;rintro e w' ⟨rfl,rfl⟩;rw[show((k:Int)+(d:Int)+1).toNat=k+d+1 from by omega,H1.out]
        go_wp2_with fail
        go_ret2
        refine⟨F9 ?_,rfl⟩;rw[HF.out];rfl
     |true=>
      have H1:=bhH h1;clear h1;cases h2:JC 8 ((L s).drop (k+d+2)) with
      |false=>
       have HF:Hid (Ik ((L s).drop k)=(0,0)):=by refine bhH ?_;unfold Ik;simp only[HDT.out,biF,if_false,<- HD.out];rw[if_neg HZ.out,if_pos HP'.out,if_pos (.inr (.inr (by rw[biU,<- blB];exact h2)))]
       have H2:=bhH h2;clear h2;rcases hbb with hb | ⟨hb,hd1⟩
       all_goals
         go_wp2_with fail
         refine(I3 _ _ _).mono ?_;rintro e w' ⟨rfl,rfl⟩;rw[O3,TZ,HP.out]
         go_wp2_with fail
         refine(JZ s _ 8 _ hT (by omega) rfl).mono ?_;rintro e w' ⟨rfl,rfl⟩;rw[show((k:Int)+(d:Int)+1).toNat=k+d+1 from by omega,H1.out]
         go_wp2_with fail
         refine(JZ s _ 8 _ hT (by omega) rfl).mono ?_;rintro e w' ⟨rfl,rfl⟩;rw[show((k:Int)+(d:Int)+2).toNat=k+d+2 from by omega,H2.out]
         go_wp2_with fail
         go_ret2
         refine⟨F9 ?_,rfl⟩;rw[HF.out];rfl
      |true=>
       have hsz:k+d+2 < s.size:=aPI 8 s _ h2
       have HF:Hid (Ik ((L s).drop k)=if free ((L s).drop (k+d+3)) then (4,d+3) else (0,0)):=by
        refine bhH ?_;unfold Ik;simp only[HDT.out,biF,if_false,<- HD.out]
        rw[if_neg HZ.out,if_pos HP'.out,if_neg (by
         rintro(h | h | h)
         ·omega
         ·rw[biU,<- blB] at h;rw[h] at H1;exact absurd H1.out (by simp)
         ·rw[biU,<- blB] at h;rw[h] at h2;exact absurd h2 (by simp))]
        rw[biU,<- blB]
       have H2:=bhH h2;clear h2;rcases hbb with hb | ⟨hb,hd1⟩
       all_goals
         go_wp2_with fail
         refine(I3 _ _ _).mono ?_;rintro e w' ⟨rfl,rfl⟩;rw[O3,TZ,HP.out]
         go_wp2_with fail
         refine(JZ s _ 8 _ hT (by omega) rfl).mono ?_;rintro e w' ⟨rfl,rfl⟩;rw[show((k:Int)+(d:Int)+1).toNat=k+d+1 from by omega,H1.out]
         go_wp2_with fail
         refine(JZ s _ 8 _ hT (by omega) rfl).mono ?_;rintro e w' ⟨rfl,rfl⟩;rw[show((k:Int)+(d:Int)+2).toNat=k+d+2 from by omega,H2.out];clear HP
         go_wp2_with fail
         cases hw:JC 30 ((L s).drop (k+d+3)) with
         |true=>
          have HW:=bhH hw;clear hw;refine(JZ s _ 30 _ hT (by omega) rfl).mono ?_;rintro e w' ⟨rfl,rfl⟩;rw[show((k:Int)+(d:Int)+3).toNat=k+d+3 from by omega,HW.out]
          go_wp2_with fail
          go_ret2
          refine⟨F9 ?_,rfl⟩;rw[HF.out,Zm _ HW.out];rfl
         |false=>
          have HW:=bhH hw;clear hw;refine(JZ s _ 30 _ hT (by omega) rfl).mono ?_;rintro e w' ⟨rfl,rfl⟩;rw[show((k:Int)+(d:Int)+3).toNat=k+d+3 from by omega,HW.out];cases hp:[46].isPrefixOf ((L s).drop (k+d+3)) with
          |true=>
           have HP:=bhH hp;clear hp
           go_wp2_with fail
           refine(I3 _ _ _).mono ?_;rintro e w' ⟨rfl,rfl⟩;rw[O3,TZ,HP.out]
           go_wp2_with fail
           go_ret2
           refine⟨F9 ?_,rfl⟩;rw[HF.out,Zn _ HP.out];rfl
          |false=>
           have HP:=bhH hp;clear hp
           go_wp2_with fail
           refine(I3 _ _ _).mono ?_;rintro e w' ⟨rfl,rfl⟩;rw[O3,TZ,HP.out]
           go_wp2_with fail
           go_ret2
           refine⟨F9 ?_,rfl⟩;rw[HF.out,qX _ HW.out HP.out];simp[VW]
           try omega
   |false=>
    have HP:=bhH hp;clear hp;have HP':Hid (¬((((L s).drop k).drop d).head?=some 46)):=bhH (by rw[biU,<- wB,HP.out];simp);by_cases hd12:12 < d
    ·have HF:Hid (Ik ((L s).drop k)=(0,0)):=by
      refine bhH ?_;unfold Ik;simp only[HDT.out,biF,if_false,<- HD.out];rw[if_neg HZ.out,if_neg HP'.out,if_pos hd12]
     have hb:=hbb.resolve_right (by omega);clear hbb
     go_wp2_with fail
     refine(I3 _ _ _).mono ?_;rintro e w' ⟨rfl,rfl⟩;rw[O3,TZ,HP.out]
     go_wp2_with fail
     go_ret2
     refine⟨F9 ?_,rfl⟩;rw[HF.out];rfl
    ·have HF:Hid (Ik ((L s).drop k)=if free ((L s).drop (k+d)) then (3,d) else (0,0)):=by
      refine bhH ?_;unfold Ik;simp only[HDT.out,biF,if_false,<- HD.out];rw[if_neg HZ.out,if_neg HP'.out,if_neg hd12,biU]
     rcases hbb with hb | ⟨hb,hd1⟩
     all_goals
       go_wp2_with fail
       refine(I3 _ _ _).mono ?_;rintro e w' ⟨rfl,rfl⟩;rw[O3,TZ,HP.out];clear HP
       go_wp2_with fail
       cases hw:JC 30 ((L s).drop (k+d)) with
       |true=>
        have HW:=bhH hw;clear hw;refine(JZ s _ 30 _ hT (by omega) rfl).mono ?_;rintro e w' ⟨rfl,rfl⟩;rw[show((k:Int)+(d:Int)).toNat=k+d from by omega,HW.out]
        go_wp2_with fail
        go_ret2
        refine⟨F9 ?_,rfl⟩;rw[HF.out,Zm _ HW.out];rfl
       |false=>
        have HW:=bhH hw;clear hw;refine(JZ s _ 30 _ hT (by omega) rfl).mono ?_;rintro e w' ⟨rfl,rfl⟩;rw[show((k:Int)+(d:Int)).toNat=k+d from by omega,HW.out];cases hp:[46].isPrefixOf ((L s).drop (k+d)) with
        |true=>
         have HP:=bhH hp;clear hp
         go_wp2_with fail
         refine(I3 _ _ _).mono ?_;rintro e w' ⟨rfl,rfl⟩;rw[O3,TZ,HP.out]
         go_wp2_with fail
         go_ret2
         refine⟨F9 ?_,rfl⟩;rw[HF.out,Zn _ HP.out];rfl
        |false=>
         have HP:=bhH hp;clear hp
         go_wp2_with fail
         refine(I3 _ _ _).mono ?_;rintro e w' ⟨rfl,rfl⟩;rw[O3,TZ,HP.out]
         go_wp2_with fail
         go_ret2
         refine⟨F9 ?_,rfl⟩;rw[HF.out,qX _ HW.out HP.out];simp[VW]
         try omega
def aEW(w:World):(bkA 134 (.agg Jo) (.int .i64 ((0:Nat):Int))).run Tryz.prog w=.ok (.string ⟨(G4.getD 0 []).toArray⟩) w:=by kernel_rfl
def aEX(w:World):(bkA 134 (.agg Jo) (.int .i64 ((1:Nat):Int))).run Tryz.prog w=.ok (.string ⟨(G4.getD 1 []).toArray⟩) w:=by kernel_rfl
def aEY(w:World):(bkA 134 (.agg Jo) (.int .i64 ((2:Nat):Int))).run Tryz.prog w=.ok (.string ⟨(G4.getD 2 []).toArray⟩) w:=by kernel_rfl
def aEZ(w:World):(bkA 134 (.agg Jo) (.int .i64 ((3:Nat):Int))).run Tryz.prog w=.ok (.string ⟨(G4.getD 3 []).toArray⟩) w:=by kernel_rfl
def aFA(w:World):(bkA 134 (.agg Jo) (.int .i64 ((4:Nat):Int))).run Tryz.prog w=.ok (.string ⟨(G4.getD 4 []).toArray⟩) w:=by kernel_rfl
def aFB(w:World):(bkA 134 (.agg Jo) (.int .i64 ((5:Nat):Int))).run Tryz.prog w=.ok (.string ⟨(G4.getD 5 []).toArray⟩) w:=by kernel_rfl
def aFC(w:World):(bkA 134 (.agg Jo) (.int .i64 ((6:Nat):Int))).run Tryz.prog w=.ok (.string ⟨(G4.getD 6 []).toArray⟩) w:=by kernel_rfl
def aFD(w:World):(bkA 134 (.agg Jo) (.int .i64 ((7:Nat):Int))).run Tryz.prog w=.ok (.string ⟨(G4.getD 7 []).toArray⟩) w:=by kernel_rfl
def aFE(w:World):(bkA 134 (.agg Jo) (.int .i64 ((8:Nat):Int))).run Tryz.prog w=.ok (.string ⟨(G4.getD 8 []).toArray⟩) w:=by kernel_rfl
def aFF(w:World):(bkA 134 (.agg Jo) (.int .i64 ((9:Nat):Int))).run Tryz.prog w=.ok (.string ⟨(G4.getD 9 []).toArray⟩) w:=by kernel_rfl
def awZ(w:World):(bkA 134 (.agg Jo) (.int .i64 ((10:Nat):Int))).run Tryz.prog w=.ok (.string ⟨(G4.getD 10 []).toArray⟩) w:=by kernel_rfl
def axA(w:World):(bkA 134 (.agg Jo) (.int .i64 ((11:Nat):Int))).run Tryz.prog w=.ok (.string ⟨(G4.getD 11 []).toArray⟩) w:=by kernel_rfl
def axB(w:World):(bkA 134 (.agg Jo) (.int .i64 ((12:Nat):Int))).run Tryz.prog w=.ok (.string ⟨(G4.getD 12 []).toArray⟩) w:=by kernel_rfl
def axC(w:World):(bkA 134 (.agg Jo) (.int .i64 ((13:Nat):Int))).run Tryz.prog w=.ok (.string ⟨(G4.getD 13 []).toArray⟩) w:=by kernel_rfl
def axD(w:World):(bkA 134 (.agg Jo) (.int .i64 ((14:Nat):Int))).run Tryz.prog w=.ok (.string ⟨(G4.getD 14 []).toArray⟩) w:=by kernel_rfl
def axE(w:World):(bkA 134 (.agg Jo) (.int .i64 ((15:Nat):Int))).run Tryz.prog w=.ok (.string ⟨(G4.getD 15 []).toArray⟩) w:=by kernel_rfl
def axF(w:World):(bkA 134 (.agg Jo) (.int .i64 ((16:Nat):Int))).run Tryz.prog w=.ok (.string ⟨(G4.getD 16 []).toArray⟩) w:=by kernel_rfl
def anA(i:Nat)(hi:i < 17)(w:World):(bkA 134 (.agg Jo) (.int .i64 (i:Int))).run Tryz.prog w=.ok (.string ⟨(G4.getD i []).toArray⟩) w:=by match i,hi with|0,_=>exact aEW w|1,_=>exact aEX w|2,_=>exact aEY w|3,_=>exact aEZ w|4,_=>exact aFA w|5,_=>exact aFB w|6,_=>exact aFC w|7,_=>exact aFD w|8,_=>exact aFE w|9,_=>exact aFF w|10,_=>exact awZ w|11,_=>exact axA w|12,_=>exact axB w|13,_=>exact axC w|14,_=>exact axD w|15,_=>exact axE w|16,_=>exact axF w|n+17,h=>omega
def amZ(t:List UInt8)(i:Nat)(hi:i < 17):R5 t (G4.drop i)=if (G4.getD i []).isPrefixOf t then (6,(G4.getD i []).length) else R5 t (G4.drop (i+1)):=by
 have:G4.drop i=G4.getD i []::G4.drop (i+1):=by
  rw[List.drop_eq_getElem_cons (by simpa[G4] using hi)]
  simp[List.getD,show i < G4.length from by simpa[G4] using hi]
 rw[this,R5]
def aFG(i:Nat):(G4.getD i []).length<=2:=by
 by_cases h:i < 17
 ·have:∀j:Fin 17,(G4.getD j.val []).length<=2:=by decide
  exact this ⟨i,h⟩
 ·have:G4.length<=i:=by simp[G4];omega
  simp[List.getD,this]
set_option maxHeartbeats 2000000 in
def zE(s:ByteArray)(a:Int)(w:World)(hs:s.size<=6000)(hT:Ph w)(h0:0<=a)(ha:a < s.size) :
   Calls Tryz.prog 117 #[.string s,.int .i64 a] w λe w'=>e=.returned (VW a.toNat (A7 ((L s).drop a.toNat)))/\w=w':=by
 obtain⟨k,rfl⟩:=blA h0;rw[biN];have hk:k < s.size:=by omega
 clear ha;obtain⟨d,hd⟩:∃d,d=Bf 30 ((L s).drop k):=⟨_,rfl⟩;have hdl:k+d<=s.size:=by rw[hd];have:=NY 30 ((L s).drop k);rw[Oe] at this;omega
 have HD:=bhH hd;clear hd
 go_enter Tryz.func117,Tryz.ntmps117
 go_wp2_with fail
 refine(TK s _ 30 _ (by omega) hT (by omega) rfl).mono ?_;rintro e w' ⟨rfl,rfl⟩;rw[biN,<- HD.out]
 go_wp2_with fail
 refine(JZ s _ 2 _ hT (by omega) rfl).mono ?_;rintro e w' ⟨rfl,rfl⟩;rw[biN];cases h2:JC 2 ((L s).drop k) with
 |true=>
  have H2:=bhH h2;clear h2;by_cases hd16:d<=16
  ·obtain⟨d2,hd2⟩:∃d2,d2=Bf 26 ((L s).drop k):=⟨_,rfl⟩
   have HD2:=bhH hd2;clear hd2;by_cases he:d2=d
   ·have HF:Hid (A7 ((L s).drop k)=(1,d)):=by
     refine bhH ?_;unfold A7;rw[H2.out,if_pos rfl,if_pos ⟨by rw[<- HD.out];exact hd16,by rw[<- HD.out,<- HD2.out];exact he⟩,<- HD.out]
    have hb:(((k:Int)+(d2:Int)) == ((k:Int)+(d:Int)))=true:=by rw[beq_iff_eq];omega
    clear he
    go_wp2_with fail
    refine(TK s _ 26 _ (by omega) hT (by omega) rfl).mono ?_;rintro e w' ⟨rfl,rfl⟩;rw[biN,<- HD2.out]
    go_wp2_with fail
    go_ret2
    refine⟨F9 ?_,rfl⟩;rw[HF.out];rfl
   ·have HF:Hid (A7 ((L s).drop k)=(0,0)):=by
     refine bhH ?_;unfold A7;rw[H2.out,if_pos rfl,if_neg (by rw[<- HD.out,<- HD2.out];exact λh=>he h.2)]
    have hb:(((k:Int)+(d2:Int)) == ((k:Int)+(d:Int)))=false:=by rw[beq_eq_false_iff_ne];omega
    clear he
    go_wp2_with fail
    refine(TK s _ 26 _ (by omega) hT (by omega) rfl).mono ?_;rintro e w' ⟨rfl,rfl⟩;rw[biN,<- HD2.out]
    go_wp2_with fail
    go_ret2
    refine⟨F9 ?_,rfl⟩;rw[HF.out];rfl
  ·have HF:Hid (A7 ((L s).drop k)=(0,0)):=by
    refine bhH ?_;unfold A7;rw[H2.out,if_pos rfl,if_neg (by rw[<- HD.out];exact λh=>hd16 h.1)]
   go_wp2_with fail
   go_ret2
   refine⟨F9 ?_,rfl⟩;rw[HF.out];rfl
 |false=>
  have H2:=bhH h2;clear h2
  go_wp2_with fail
  refine(JZ s _ 4 _ hT (by omega) rfl).mono ?_;rintro e w' ⟨rfl,rfl⟩;rw[biN];cases h4:JC 4 ((L s).drop k) with
  |true=>
   have H4:=bhH h4;clear h4;by_cases hd3:d=3
   ·have hb3:(((k:Int)+(d:Int) - (k:Int)) == 3)=true:=by rw[beq_iff_eq];omega
    obtain⟨d2,hd2⟩:∃d2,d2=Bf 4 ((L s).drop k):=⟨_,rfl⟩;have HD2:=bhH hd2;clear hd2;have HD3:=bhH hd3;by_cases he:d2=d
    ·have HF:Hid (A7 ((L s).drop k)=(2,d)):=by
      refine bhH ?_;unfold A7;rw[H2.out,H4.out,if_neg (by simp),if_pos rfl,if_pos ⟨by rw[<- HD.out];exact hd3,by rw[<- HD.out,<- HD2.out];exact he⟩,<- HD.out]
     have hb:(((k:Int)+(d2:Int)) == ((k:Int)+(d:Int)))=true:=by rw[beq_iff_eq];omega
     clear he hd3
     go_wp2_with fail
     refine(TK s _ 4 _ (by omega) hT (by omega) rfl).mono ?_;rintro e w' ⟨rfl,rfl⟩;rw[biN,<- HD2.out]
     go_wp2_with fail
     go_ret2
     refine⟨F9 ?_,rfl⟩;rw[HF.out];rfl
    ·have HF:Hid (A7 ((L s).drop k)=(0,0)):=by
      refine bhH ?_;unfold A7;rw[H2.out,H4.out,if_neg (by simp),if_pos rfl,if_neg (by rw[<- HD.out,<- HD2.out];exact λh=>he h.2)]
     have hb:(((k:Int)+(d2:Int)) == ((k:Int)+(d:Int)))=false:=by rw[beq_eq_false_iff_ne];omega
     clear he hd3
     go_wp2_with fail
     refine(TK s _ 4 _ (by omega) hT (by omega) rfl).mono ?_;rintro e w' ⟨rfl,rfl⟩;rw[biN,<- HD2.out]
     go_wp2_with fail
     go_ret2
     refine⟨F9 ?_,rfl⟩;rw[HF.out];rfl
   ·have HF:Hid (A7 ((L s).drop k)=(0,0)):=by
     refine bhH ?_;unfold A7;rw[H2.out,H4.out,if_neg (by simp),if_pos rfl,if_neg (by rw[<- HD.out];exact λh=>hd3 h.1)]
    have hb3:(((k:Int)+(d:Int) - (k:Int)) == 3)=false:=by rw[beq_eq_false_iff_ne];omega
    clear hd3
    go_wp2_with fail
    go_ret2
    refine⟨F9 ?_,rfl⟩;rw[HF.out];rfl
  |false=>
   have H4:=bhH h4;clear h4
   go_wp2_with fail
   refine(JZ s _ 8 _ hT (by omega) rfl).mono ?_;rintro e w' ⟨rfl,rfl⟩;rw[biN];cases h8:JC 8 ((L s).drop k) with
   |true=>
    have HF:Hid (A7 ((L s).drop k)=Ik ((L s).drop k)):=by refine bhH ?_;unfold A7;rw[H2.out,H4.out,h8,if_neg (by simp),if_neg (by simp),if_pos rfl]
    clear h8
    go_wp2_with fail
    refine(wH s _ _ hs hT (by omega) (by omega)).mono ?_;rintro e w' ⟨rfl,rfl⟩;rw[biN];by_cases hz:(Ik ((L s).drop k)).1=0
    ·have HO:Hid (VW k (Ik ((L s).drop k))=.tuple #[.int .i64 0,.int .i64 0]):=bhH (by unfold VW;rw[if_pos hz])
     clear hz;rw[HO.out]
     go_wp2_with fail
     go_ret2
     exact⟨by rw[HF.out,HO.out];rfl,rfl⟩
    ·obtain⟨q,n,HO⟩:∃q n:Int,Hid (VW k (Ik ((L s).drop k))=.tuple #[.int .i64 q,.int .i64 n]):=⟨_,_,bhH (by unfold VW;rw[if_neg hz])⟩
     clear hz;rw[HO.out]
     go_wp2_with fail
     go_ret2
     exact⟨by rw[HF.out,HO.out];rfl,rfl⟩
   |false=>
    have HF:Hid (A7 ((L s).drop k)=R5 ((L s).drop k) (G4.drop 0)):=by refine bhH ?_;unfold A7;rw[H2.out,H4.out,h8,if_neg (by simp),if_neg (by simp),if_neg (by simp),List.drop_zero]
    clear h8;have hg1:=hT.2;have HG:=bhH hg1;clear hg1
    go_wp2_with (refine YR rfl 134 _ rfl 0 rfl _ _ HG.out Tryz.underlying134 rfl (by kernel_rfl) ?_)
    go_loopg [8,54] 17 (λg _ x wx=>∃i:Nat,w=wx/\i<=17/\g=17 - i/\Hid (A7 ((L s).drop k)=R5 ((L s).drop k) (G4.drop i))/\x=.int .i64 i)
    case atStart=>exact⟨0,rfl,by omega,rfl,HF,rfl⟩
    case round=>
     obtain⟨i,rfl,hi,rfl,HI,rfl⟩:=hrel;by_cases hi17:i < 17
     ·have hix:=anA i hi17
      have HS:=bhH (amZ ((L s).drop k) i hi17);have hsl:=aFG i;cases hp:(G4.getD i []).isPrefixOf ((L s).drop k) with
      |true=>
       have hlen:k+(G4.getD i []).length<=s.size:=by have:=(bkE.1 hp).length_le;rw[Oe] at this;omega
       have HP:=bhH hp;clear hp;generalize hy:G4.getD i []=y at *;clear hy
       go_wp2_with fail
       refine(I3 _ _ _).mono ?_;rintro e w' ⟨rfl,rfl⟩;rw[O3];rw[show L (⟨y.toArray⟩:ByteArray)=y from by simp,HP.out];clear hix
       go_wp2_with fail
       go_ret2
       refine⟨F9 ?_,rfl⟩;rw[HI.out,HS.out,HP.out];simp[VW]
      |false=>
       have HP:=bhH hp;clear hp;generalize hy:G4.getD i []=y at *;clear hy
       go_wp2_with fail
       refine(I3 _ _ _).mono ?_;rintro e w' ⟨rfl,rfl⟩;rw[O3];rw[show L (⟨y.toArray⟩:ByteArray)=y from by simp,HP.out];clear hix
       go_wp2_with fail
       go_roundg (17 - (i+1))
       case measure=>omega
       case rel=>
        refine⟨i+1,rfl,by omega,rfl,bhH ?_,by go_num⟩;rw[HI.out,HS.out,HP.out];rfl
     ·have hge:17<=i:=by omega
      go_wp2_with fail
      go_ret2
      refine⟨F9 ?_,rfl⟩;rw[HI.out,List.drop_eq_nil_of_le (show G4.length<=i from hge)];rfl
end Go.Proofs.YtpbkhogolfegfaaGreatDoor
namespace Go.Proofs.YtpbkhogolfegfaaGreatDoor
open Go.RowKit Go.Shelf LexS
attribute [local go_sem] Oper.semAt_some
def axQ(x:Tok):Value:=.agg #[.int .i64 x.1,.string ⟨x.2.1.toArray⟩,.int .i64 x.2.2]
def KpL(n₀ Bn:Nat)(W W':World):Prop:=Below n₀ W W'/\W'.heap[Bn]?=W.heap[Bn]?
def aYE{n₀ Bn:Nat}{A B C:World}(h:KpL n₀ Bn A B)(k:KpL n₀ Bn B C):KpL n₀ Bn A C:=⟨h.1.trans k.1,k.2.trans h.2⟩
def aYD{n₀ Bn:Nat}{w:World}(hn:n₀<=w.heap.size)(hB:Bn < w.heap.size)(W:World)(l:Nat)(o o':Obj)(hl:w.heap.size<=l)(h:W.heap[l]?=some o)(h1:o.isCells=false)(h2:o.isWalk=false):KpL n₀ Bn W (W.putObj l o') :=
 ⟨belowK_b hn W l o o' hl h h1 h2,World.putObj_heap_other (by omega)⟩
def Ph.below{n₀:Nat}{W W':World}(h:Ph W)(hn:TB n₀)(hb:Below n₀ W W'):Ph W' :=
 h.GY ⟨hb.block _ hn.1,hb.block _ hn.2⟩
set_option maxRecDepth 100000 in
set_option maxHeartbeats 1000000 in
def aeT(n:Nat)(hn:1<=n)(l Bn n₀:Nat)(hn0:TB n₀)(s:ByteArray)(hs:s.size<=6000)(J Jx:List Tok->World->Prop)
   (hY:∀pre x W,J pre W->pre.length < (FX (L s)).length->YieldAt brG (n - 1) Tryz.prog l #[axQ x] W λe W'=>
    (e=.returned (.bool true)/\J (pre++[x]) W'/\KpL n₀ Bn W W')\/(e=.returned (.bool false)/\Jx (pre++[x]) W'))
   (W:World) (hBn:Boxed W Bn 9 (.string s)) (hT:Ph W) (h0:J [] W):
   CallsIn brG n Tryz.prog 115 #[.func (.yield l) #[] #[],.pointer (some ⟨Bn,0,none⟩)] W λe W'=>(∃v,e=.returned v) /\
    ((∃ys,(ys=FX (L s))/\J ys W')\/(∃pre,pre <+: FX (L s)/\Jx pre W')):=by
 have hc:=hBn.cell;have H0:Hid (FX (L s)=GW (L s) (HV (L s))):=bhH (pP _);have hsk:=VH (L s);refine callsIn_of_wp Tryz.func115 rfl trivial ?_ rfl;simp only[Tryz.ntmps115,bjY,bhE,biV,brA,brB,boE,boF,bpM,boN,bkC,bjR]
 gi_wp2_with (refine⟨trivial,?_⟩;gi_at_call 116;refine(callsIn_wide.2 (aaG s 0 _ (by omega) hT (by omega) (by omega))).mono ?_;rintro e w' ⟨rfl,rfl⟩)
 gi_loopw [3] (λa wr=>∃(pre:List Tok)(k:Nat),a=.int .i64 k/\k<=s.size/\Hid (FX (L s)=pre++GW (L s) k)/\Boxed wr Bn 9 (.string s)/\Ph wr/\J pre wr)
   (λa _=>s.size - (intOf a).toNat)
 case atStart=>
  refine⟨[],HV (L s),?_,?_,bhH ?_,hBn,hT,h0⟩
  ·simp
  ·simpa using hsk
  ·rw[bkC];exact H0.out
 case round=>
  obtain⟨pre,k,rfl,hk,HX,hBr,hTr,hJs⟩:=hrel;have hcr:=hBr.cell;by_cases hlt:k < s.size
  ·have hlt':k < (L s).length:=by simpa using hlt
   by_cases hz:(A7 ((L s).drop k)).1=0
   ·have HE:Hid (FX (L s)=pre++[(0,[],k)]):=bhH (by rw[HX.out,Vu _ _ hlt' hz])
    have HO:Hid (VW k (A7 ((L s).drop k))=.tuple #[.int .i64 0,.int .i64 0]):=bhH (by unfold VW;rw[if_pos hz]);clear hz;obtain⟨fn,tmps,assign,body,hy,hR⟩:=hY pre (0,[],k) wr hJs (by rw[HE.out];simp);dsimp only[axQ] at hy;rw[show((0:Nat):Int)=0 from rfl,show([]:List UInt8).toArray=#[] from rfl] at hy
    gi_wp2_with (refine⟨trivial,?_⟩;gi_at_call 117;refine(callsIn_wide.2 (zE s k _ hs hTr (by omega) (by omega))).mono ?_;rintro e w' ⟨rfl,rfl⟩;rw[biN,HO.out])
    refine hR.mono ?_;rintro e W3 (⟨rfl,hJ3,hk3⟩ | ⟨rfl,hJx3⟩)
    ·gi_wp2
     refine bodyPost_ret (results_none rfl _ _ _) rfl ?_;exact⟨⟨_,rfl⟩,.inl ⟨_,HE.out.symm,hJ3⟩⟩
    ·gi_wp2
     refine bodyPost_ret (results_none rfl _ _ _) rfl ?_;exact⟨⟨_,rfl⟩,.inr ⟨_,by rw[HE.out];exact List.prefix_refl _,hJx3⟩⟩
   ·obtain⟨q,d,hqd⟩:∃q d,A7 ((L s).drop k)=(q,d):=⟨_,_,rfl⟩
    have hpos:=Vc _ hz;rw[hqd] at hz hpos;rw[Oe] at hpos;obtain⟨hd1,hd2⟩:=hpos;simp only at hd1 hd2 hz;have hq:((q:Int) == 0)=false:=by rw[beq_eq_false_iff_ne];omega
    have HE:Hid (FX (L s)=pre++(q,((L s).drop k).take d,k)::GW (L s) (k+d+HV ((L s).drop (k+d)))):=bhH (by rw[HX.out,Vv _ _ hlt' (by rw[hqd];exact hz),hqd]);have HO:Hid (VW k (A7 ((L s).drop k))=.tuple #[.int .i64 q,.int .i64 (k+d:Nat)]):=bhH (by unfold VW;rw[hqd,if_neg hz]);clear hz hqd;have hsk2:=VH ((L s).drop (k+d));rw[Oe] at hsk2;obtain⟨fn,tmps,assign,body,hy,hR⟩:=hY pre (q,((L s).drop k).take d,k) wr hJs (by rw[HE.out];simp);have HT:Hid ((⟨(((L s).drop k).take d).toArray⟩:ByteArray)=s.extract k (k+d)):=bhH (Go.WideShapes.bytes_inj (by rw[bpW];simp));dsimp only[axQ] at hy;rw[HT.out] at hy;have hkd:k+d<=s.size:=by omega
    gi_wp2_with (refine⟨trivial,?_⟩;gi_at_call 117;refine(callsIn_wide.2 (zE s k _ hs hTr (by omega) (by omega))).mono ?_;rintro e w' ⟨rfl,rfl⟩;rw[biN,HO.out])
    refine hR.mono ?_;rintro e W3 (⟨rfl,hJ3,hk3⟩ | ⟨rfl,hJx3⟩)
    ·have hT3:Ph W3:=hTr.below hn0 hk3.1
     have hB3:Boxed W3 Bn 9 (.string s):=hk3.2.trans hBr;have hc3:=hB3.cell
     gi_wp2_with (refine⟨trivial,?_⟩;gi_at_call 116;refine(callsIn_wide.2 (aaG s _ _ (by omega) hT3 (by omega) (by omega))).mono ?_;rintro e w' ⟨rfl,rfl⟩)
     go_roundw
     case rel=>
      refine⟨_,k+d+HV ((L s).drop (k+d)),?_,by omega,bhH ?_,hB3,hT3,hJ3⟩
      ·rw[show((k:Int)+(d:Int)).toNat=k+d from by omega]
       exact congrArg (Value.int .i64) (by omega)
      ·rw[HE.out];simp
     case measure=>
      rw[show((k:Int)+(d:Int)).toNat=k+d from by omega];simp only[intOf];omega
    ·gi_wp2
     refine bodyPost_ret (results_none rfl _ _ _) rfl ?_;exact⟨⟨_,rfl⟩,.inr ⟨_,by rw[HE.out];exact⟨GW (L s) (k+d+HV ((L s).drop (k+d))),by simp⟩,hJx3⟩⟩
  ·have hge:s.size<=k:=by omega
   have HE:Hid (FX (L s)=pre):=bhH (by rw[HX.out,aV _ _ (by simpa using hge)];simp)
   gi_wp2
   go_end0
   exact⟨⟨_,rfl⟩,.inl ⟨pre,HE.out.symm,hJs⟩⟩
set_option maxHeartbeats 1000000 in
def anH(n:Nat)(s:ByteArray)(w:World) :
   CallsIn brG n Tryz.prog 67 #[.string s] w λe w'=>e=.returned (.func (.func 115) #[] #[.pointer (some ⟨w.heap.size,0,none⟩)])/\w'=w.alloc (.cells #[.string s] 9):=by
 refine callsIn_of_wp Tryz.func67 rfl trivial ?_ rfl;simp only[Tryz.ntmps67,bjY,bhE,biV,brA,brB,boE,boF,bpM,boN,bkC,bjR]
 gi_wp2
 go_ret
 exact⟨rfl,rfl⟩
def uI(n:Nat)(hn:1<=n)(Bn n₀:Nat)(hn0:TB n₀)(s:ByteArray)(hs:s.size<=6000)(w:World)(hB:Bn < w.heap.size)(hn1:n₀<=w.heap.size)(hb:Boxed w Bn 9 (.string s))(hT:Ph w) :
   SeqStopsK brG n Tryz.prog 115 #[.pointer (some ⟨Bn,0,none⟩)] (λx:Tok=>#[axQ x]) (KpL n₀ Bn) (λys=>ys=FX (L s)) (λpre=>pre <+: FX (L s)) (FX (L s)).length w:=λl J Jx W hW _ _ hY h0=>
 aeT n hn l Bn n₀ hn0 s hs J Jx hY W ((hW.block Bn hB).trans hb) (hT.below (n₀:=w.heap.size) hT.tb hW) h0
attribute [local go_sem] Oper.semAt_some
def LR(l:List Tok):List Value:=l.flatMap λx=>[.int .i64 x.1,.string ⟨x.2.1.toArray⟩,.int .i64 x.2.2]
def pT(r:List Tok×Nat×Nat)(w:World)(e:Ending)(w':World):Prop :=
 ∃v,e=.returned (.tuple #[v,.int .i64 r.2.1,.int .i64 r.2.2])/\w'.ownsRow w.heap.size 43 3 v r.1.length (LR r.1)/\Below w.heap.size w w'
def Tryz.aBK:(Tryz.prog.info? 43).map (λi=>(i.zero,i.size,i.bytes))=some (some (.agg #[.int .i64 0,.string ⟨#[]⟩,.int .i64 0]),3,32):=by kernel_rfl
def mL(l:List Tok)(x:Tok):LR (l++[x])=LR l++[.int .i64 x.1,.string ⟨x.2.1.toArray⟩,.int .i64 x.2.2]:=by unfold LR;simp
set_option maxHeartbeats 1000000 in
def asX(s:ByteArray)(w:World)(hs:6000 < s.size) :
   Calls Tryz.prog 34 #[.string s] w (pT ([],2,0) w):=by
 go_enter Tryz.func34,Tryz.ntmps34
 go_wp2_with fail
 refine bodyPost_ret (v:=.tuple #[.slice none 0 0,.int .i64 2,.int .i64 0]) (by simp[results,Tryz.results34,go_sem]) rfl ?_;exact⟨_,rfl,bpN _ _ _ _,(((Below.refl _ _).alloc (aWP _) _).alloc (by simp) _).alloc (by simp;omega) _⟩
def aUA(s:ByteArray)(w:World)(pre:List Tok)(W:World):Prop :=
 (((((∃v,Boxed W (w.heap.size+1+1+1) 38 v/\W.ownsRow w.heap.size 43 3 v pre.length (LR pre)/\True) /\
  Boxed W w.heap.size 38 (.slice none 0 0))/\Boxed W (w.heap.size+1) 39 (.int .i64 0))/\Boxed W (w.heap.size+1+1) 3 (.int .i64 0))/\Boxed W (w.heap.size+1+1+1+1) 9 (.string s))/\vC pre/\Below w.heap.size w W
def asV(s:ByteArray)(w:World)(B:Nat)(hB:w.heap.size<=B):OwnFrom B (aUA s w) :=
 boG (boG (boG (boG (boG (Own.from (holdsRow_own w.heap.size (w.heap.size+1+1+1) 38 43 3 (λpre:List Tok=>pre.length) LR (λ_ _=>True)) _) (Own.from (boxed_own _ _ (λ_=>_)) _)) (Own.from (boxed_own _ _ (λ_=>_)) _)) (Own.from (boxed_own _ _ (λ_=>_)) _)) (Own.from (boxed_own _ _ (λ_=>_)) _)) (boG (ownFrom_pure _ vC) (ownFrom_below (aWP _) hB))
def aMA(w:World)(c:Code)(pre:List Tok)(W:World):Prop :=
 (c=.ret/\(∃q x err,(pre=q++[x]/\vC q/\((q.length=2000/\err=2)\/(q.length < 2000/\x.1=0/\err=61))) /\
  Boxed W w.heap.size 38 (.slice none 0 0)/\Boxed W (w.heap.size+1) 39 (.int .i64 (err:Nat))/\Boxed W (w.heap.size+1+1) 3 (.int .i64 x.2.2)))/\Below w.heap.size w W
def UG{X Y:World}{row:Option Nat}{B b:Nat}{t:TypeId}{v:Value}(h:Boxed X b t v)(hg:X.grownBy Y row)(hr:∀r,row=some r->B<=r/\∃o:Obj,X.heap[r]?=some o/\o.isCells=false):Boxed Y b t v :=
 boxed_own b t (λ(_:Unit)=>v) () X Y row h hg (λr e=>(hr r e).2)
def asW(w:World)(B:Nat)(hB:w.heap.size<=B)(c:Code):OwnFrom B (aMA w c):=by intro pre X Y row hs hg hr;obtain⟨⟨hc,q,x,err,h1,h2,h3,h4⟩,h5⟩:=hs;exact⟨⟨hc,q,x,err,h1,UG h2 hg hr,UG h3 hg hr,UG h4 hg hr⟩,ownFrom_below (β:=Unit) (aWP _) hB () X Y row h5 hg hr⟩
def WA(W:World)(B:Nat)(x:Tok):Prop:=W.heap[B]?=some (.cells #[.int .i64 x.1,.string ⟨x.2.1.toArray⟩,.int .i64 x.2.2] 43 (0,0))
def WA.kept{X Y:World}{row:Option Nat}{b:Nat}{x:Tok}(h:WA X b x)(hg:X.grownBy Y row)(hr:some b≠row):WA Y b x :=
 (hg.block b (Array.getElem?_eq_some_iff.1 h).1 hr).trans h
def WA.keeps{X Y:World}{row:Option Nat}{B b:Nat}{x:Tok}(h:WA X b x)(hg:X.grownBy Y row)(hr:∀r,row=some r->B<=r/\∃o:Obj,X.heap[r]?=some o/\o.isCells=false):WA Y b x:=by refine h.kept hg (λe=>?_);obtain⟨_,o,ho,hc⟩:=hr b e.symm;rw[show X.heap[b]?=_ from h] at ho;cases ho;cases hc
def akQ(w:World)(a b c:Value)(t:TypeId):∀(j:Nat) u,[a,b,c][j]?=some u->(w.alloc (.cells #[a,b,c] t)).cell? ((⟨w.heap.size,0,none⟩:Addr).add j)=some u:=by
 intro j u hu;have hh:=heap_alloc_new w (.cells #[a,b,c] t)
 match j,hu with|0,hu=>rw[show(⟨w.heap.size,0,none⟩:Addr).add 0=⟨w.heap.size,0,none⟩ from rfl,cell_of_row _ _ _ _ _ _ hh];simpa using hu|1,hu=>rw[show(⟨w.heap.size,0,none⟩:Addr).add 1=⟨w.heap.size,1,none⟩ from rfl,cell_of_row _ _ _ _ _ _ hh];simpa using hu|2,hu=>rw[show(⟨w.heap.size,0,none⟩:Addr).add 2=⟨w.heap.size,2,none⟩ from rfl,cell_of_row _ _ _ _ _ _ hh];simpa using hu|n+3,hu=>simp at hu
def PH{X:World}{b D:Nat}{t:TypeId}{v:Value}{o:Obj}(h:Boxed X b t v)(hne:b≠D):Boxed (X.putObj D o) b t v :=
 h.kept (grownBy_putObj' X D o) (λe=>hne (by cases e;rfl))
def agV{w W:World}{B:Nat}{pre:List Tok}{x:Tok}{err:Nat}(c0:Boxed W w.heap.size 38 (.slice none 0 0))(c1:Boxed W (w.heap.size+1) 39 (.int .i64 0))(c2:Boxed W (w.heap.size+1+1) 3 (.int .i64 0))(hG:vC pre)(hB:Below w.heap.size w W)
   (he:(pre.length=2000/\err=2)\/(pre.length < 2000/\x.1=0/\err=61)):
   KeepsFrom B W (((W.setCell ⟨w.heap.size,0,none⟩ (.slice none 0 0)).setCell ⟨w.heap.size+1,0,none⟩ (.int .i64 (err:Nat))).setCell ⟨w.heap.size+1+1,0,none⟩ (.int .i64 x.2.2)).drew /\
   aMA w .ret (pre++[x]) (((W.setCell ⟨w.heap.size,0,none⟩ (.slice none 0 0)).setCell ⟨w.heap.size+1,0,none⟩ (.int .i64 (err:Nat))).setCell ⟨w.heap.size+1+1,0,none⟩ (.int .i64 x.2.2)).drew:=by
 refine⟨((((blQ _ _ _).trans (blQ _ _ _)).trans (blQ _ _ _)).trans (KeepsOthers.drew _)).from _,⟨rfl,pre,x,err,⟨rfl,hG,he⟩,?_,?_,?_⟩,?_⟩
 ·exact((c0.set _).other (by omega) _).other (by omega) _
 ·exact((c1.other (by omega) _).set _).other (by omega) _
 ·exact((c2.other (by omega) _).other (by omega) _).set _
 ·exact(((hB.setCell (p:=⟨w.heap.size,0,none⟩) (aWP _) _).setCell (p:=⟨w.heap.size+1,0,none⟩) (by simp) _).setCell (p:=⟨w.heap.size+1+1,0,none⟩) (by simp;omega) _).drew
set_option maxRecDepth 100000 in
set_option maxHeartbeats 2000000 in
def alP(s:ByteArray)(w:World)(hT:Ph w)(hs:s.size<=6000) :
   Calls Tryz.prog 34 #[.string s] w (pT (FC [] (FX (L s))) w):=by
 have hb:decide ((6000:Int) < (s.size:Int))=false:=by simp;omega
 have hT2:TB w.heap.size:=hT.tb;obtain⟨i0,hi,hz0,hz1,hz2⟩:=info_parts Tryz.aBK;have hmo:Tryz.prog.follows Departure.mixedOrders=true:=by kernel_rfl
 refine(callsIn_wide (n:=8)).1 ?_;refine callsIn_of_wp_marks Tryz.func34 rfl trivial ?_ rfl;simp only[Tryz.ntmps34,bjY,bhE,biV,brA,brB,boE,boF,bpM,boN,bkC,bjR]
 gi_wp2_with (refine⟨trivial,?_⟩;gi_at_call 67;refine(anH _ s _).mono ?_;rintro e w' ⟨rfl,rfl⟩)
 obtain⟨W0,hW0⟩:∃W0,((((w.alloc (.cells #[.slice none 0 0] 38)).alloc (.cells #[.int .i64 0] 39)).alloc (.cells #[.int .i64 0] 3)).alloc (.cells #[.slice none 0 0] 38)).alloc (.cells #[.string s] 9)=W0:=⟨_,rfl⟩;have hsz:W0.heap.size=w.heap.size+5:=by rw[<- hW0];simp
 have b0:Boxed W0 w.heap.size 38 (.slice none 0 0):=by rw[<- hW0];exact((((bqS w _ _).alloc _).alloc _).alloc _).alloc _
 have b1:Boxed W0 (w.heap.size+1) 39 (.int .i64 0):=by rw[<- hW0];have:=((((bqS (w.alloc (.cells #[.slice none 0 0] 38)) 39 (.int .i64 0)).alloc (.cells #[.int .i64 0] 3)).alloc (.cells #[.slice none 0 0] 38)).alloc (.cells #[.string s] 9));rw[bkD] at this;exact this
 have b2:Boxed W0 (w.heap.size+1+1) 3 (.int .i64 0):=by rw[<- hW0];have:=(((bqS ((w.alloc (.cells #[.slice none 0 0] 38)).alloc (.cells #[.int .i64 0] 39)) 3 (.int .i64 0)).alloc (.cells #[.slice none 0 0] 38)).alloc (.cells #[.string s] 9));rw[bkD,bkD] at this;exact this
 have b3:Boxed W0 (w.heap.size+1+1+1) 38 (.slice none 0 0):=by rw[<- hW0];have:=((bqS (((w.alloc (.cells #[.slice none 0 0] 38)).alloc (.cells #[.int .i64 0] 39)).alloc (.cells #[.int .i64 0] 3)) 38 (.slice none 0 0)).alloc (.cells #[.string s] 9));rw[bkD,bkD,bkD] at this;exact this
 have b4:Boxed W0 (w.heap.size+1+1+1+1) 9 (.string s):=by rw[<- hW0];have:=(bqS ((((w.alloc (.cells #[.slice none 0 0] 38)).alloc (.cells #[.int .i64 0] 39)).alloc (.cells #[.int .i64 0] 3)).alloc (.cells #[.slice none 0 0] 38)) 9 (.string s));rw[bkD,bkD,bkD,bkD] at this;exact this
 have hB0:Below w.heap.size w W0:=by rw[<- hW0];exact(((((Below.refl _ w).alloc (aWP _) _).alloc (by simp) _).alloc (by simp;omega) _).alloc (by simp;omega) _).alloc (by simp;omega) _
 have hT0:Ph W0:=hT.below hT2 hB0;rw[hW0];clear hW0
 refine wpIn_rangeFunc_ownH rfl (by omega) (gf:=115) (lb:=#[.pointer (some ⟨w.heap.size+1+1+1+1,0,none⟩)]) rfl trivial (enters_of Tryz.func115 (by kernel_rfl) rfl)
   (uI 7 (by omega) (w.heap.size+1+1+1+1) w.heap.size hT2 s hs W0 (by omega) (by omega) b4 hT0) aYE (aYD (by omega) (by omega)) (Below.refl _ _) (λ_=>rfl)
   (aUA s w) (aMA w) (asV s w _ (by omega)) (asW w _ (by omega))
   ⟨⟨⟨⟨⟨⟨_,b3,bpN _ _ _ _,trivial⟩,b0⟩,b1⟩,b2⟩,b4⟩,⟨by simp,by simp⟩,hB0⟩
   (λx a' W=>∃Bx,w.heap.size+1+1+1+1 < Bx/\WA W Bx x/\a'={ tmps:=#[.string s,undef,.pointer (some ⟨w.heap.size,0,none⟩),.pointer (some ⟨w.heap.size+1,0,none⟩),.pointer (some ⟨w.heap.size+1+1,0,none⟩),.pointer (some ⟨w.heap.size+1+1+1,0,none⟩),.pointer (some ⟨Bx,0,none⟩),.string s,.int .i64 s.size,.bool false,.string s,.func (.func 115) #[] #[.pointer (some ⟨w.heap.size+1+1+1+1,0,none⟩)],.agg #[.int .i64 x.1,.string ⟨x.2.1.toArray⟩,.int .i64 x.2.2],undef,undef,undef,undef,undef,undef,undef,undef,undef,undef,undef,undef,undef,undef,undef],defers:=[] })
   (λx a' _ X Y row hs hg hr=>by obtain⟨Bx,h1,h2,h3⟩:=hs;exact⟨Bx,h1,h2.keeps hg hr,h3⟩)
   ?assign ?body ?done ?stop
 case assign=>
  rintro l pre x W K hI hK;dsimp only[axQ]
  gi_wp2
  obtain⟨⟨⟨⟨⟨⟨v,hv,hrow,_⟩,c0⟩,c1⟩,c2⟩,c4⟩,hG,hB⟩:=hI;exact hK _ _ ((KeepsOthers.alloc _ _).from _) ⟨(Below.refl _ W).alloc hB.size _,Below.heap_alloc _ _ _ c4.lt⟩ ⟨⟨⟨⟨⟨⟨v,hv.alloc _,hrow.alloc _,trivial⟩,c0.alloc _⟩,c1.alloc _⟩,c2.alloc _⟩,c4.alloc _⟩,hG,hB.alloc hB.size _⟩ ⟨W.heap.size,c4.lt,heap_alloc_new W _,rfl⟩
 case body=>
  rintro l pre x a' W hl ⟨r,hr⟩ hI ⟨Bx,hBx,bX,rfl⟩ hlt;obtain⟨⟨⟨⟨⟨⟨v,hv,hrow,_⟩,c0⟩,c1⟩,c2⟩,c4⟩,hG,hB⟩:=hI
  obtain⟨A,cp,rfl⟩:∃A cp,v=.slice A pre.length cp:=by
   rcases hrow.2 with ⟨h,h0⟩ | ⟨g,cap,cur,h,_⟩
   ·exact⟨none,0,by rw[h,h0]⟩
   ·exact⟨_,cap,h⟩
  have hc:=hv.cell;have k0:W.cell? ⟨Bx,0,none⟩=some (.int .i64 x.1):=by rw[cell_of_row W Bx 0 _ _ _ bX];rfl
  have k1:W.cell? ⟨Bx,1,none⟩=some (.string ⟨x.2.1.toArray⟩):=by rw[cell_of_row W Bx 1 _ _ _ bX];rfl
  have k2:W.cell? ⟨Bx,2,none⟩=some (.int .i64 x.2.2):=by rw[cell_of_row W Bx 2 _ _ _ bX];rfl
  have hlen:=hG.1;by_cases h2000:pre.length=2000
  ·have hb2:((pre.length:Int) == 2000)=true:=by rw[beq_iff_eq];omega
   have f0:=c0.frozen;have f1:=c1.frozen;have f2:=c2.frozen;have d0:=c0.cell;have d1:=c1.cell;have d2:=c2.cell;have HL:=bhH h2000;clear h2000
   gi_wp2
   gi_region_o
   all_goals gi_wp2
   all_goals exact agV (err:=2) c0 c1 c2 hG hB (.inl ⟨HL.out,rfl⟩)
  ·have hb2:((pre.length:Int) == 2000)=false:=by rw[beq_eq_false_iff_ne];omega
   have HL:=bhH h2000;clear h2000;by_cases hx0:x.1=0
   ·have hb3:((x.1:Int) == 0)=true:=by rw[beq_iff_eq];omega
    have HX:=bhH hx0;clear hx0;have f0:=c0.frozen;have f1:=c1.frozen;have f2:=c2.frozen;have d0:=c0.cell;have d1:=c1.cell;have d2:=c2.cell
    gi_wp2
    gi_region_o
    all_goals gi_wp2
    all_goals exact agV (err:=61) c0 c1 c2 hG hB (.inr ⟨by have:=HL.out;omega,HX.out,rfl⟩)
   ·have hb3:((x.1:Int) == 0)=false:=by rw[beq_eq_false_iff_ne];omega
    have HX:=bhH hx0;clear hx0;have hlen2:pre.length+1<=2000:=by have:=HL.out;omega
    gi_wp2_with (gi_at_builtin;refine wpListIn_append_own _ rfl _ _ 38 rfl w.heap.size 43 i0 _ 3 32 Tryz.underlying38 hi hz0 hz1 hz2 rfl (by decide) _ _ _ rfl (hrow.alloc _) ⟨W.heap.size,0,none⟩ 1 1 [.int .i64 x.1,.string ⟨x.2.1.toArray⟩,.int .i64 x.2.2] rfl rfl (akQ _ _ _ _ _) (by simp[Value.oneCell']) (by unfold maxLen;omega) (by omega) (by have:=hB.size;simp;omega) ?_;intro v' w1 hown' hgrow _;obtain⟨g',cap',rfl⟩:=ownsRow_succ hown';obtain⟨hv1,hv2,hr2,hk2,hb2'⟩:=hv.appended (by decide) hrow hB.size (by omega) hown' hgrow;have hc1:=hv1.cell;have hf1:=hv1.frozen)
    have e0:=((c0.alloc _).kept hgrow (c0.not_row (by decide) hrow)).other (B':=w.heap.size+1+1+1) (by omega) (.slice (some ⟨g',0,none⟩) (pre.length+1) cap');have e1:=((c1.alloc _).kept hgrow (c1.not_row (by decide) hrow)).other (B':=w.heap.size+1+1+1) (by omega) (.slice (some ⟨g',0,none⟩) (pre.length+1) cap');have e2:=((c2.alloc _).kept hgrow (c2.not_row (by decide) hrow)).other (B':=w.heap.size+1+1+1) (by omega) (.slice (some ⟨g',0,none⟩) (pre.length+1) cap');have e4:=((c4.alloc _).kept hgrow (c4.not_row (by decide) hrow)).other (B':=w.heap.size+1+1+1) (by omega) (.slice (some ⟨g',0,none⟩) (pre.length+1) cap');refine⟨hk2.from _,⟨hb2',e4.trans c4.symm⟩,⟨⟨⟨⟨⟨_,hv2,?_,trivial⟩,e0⟩,e1⟩,e2⟩,e4⟩,⟨by simp;omega,?_⟩,hB.trans hb2'⟩
    ·rw[mL,List.length_append]
     exact hr2
    ·intro y hy
     rcases List.mem_append.1 hy with h | h
     ·exact hG.2 y h
     ·rw[List.mem_singleton] at h;rw[h];exact HX.out
 case done=>
  rintro D ys W hD rfl hI hK;obtain⟨⟨⟨⟨⟨⟨v,hv,hrow,_⟩,c0⟩,c1⟩,c2⟩,c4⟩,hG,hB⟩:=hI
  have HO:Hid (FC [] (FX (L s))=(FX (L s),0,0)):=by
   refine bhH ?_;have:=aE [] (FX (L s)) [] (by simpa using hG)
   simpa[FC] using this
  obtain⟨A,cp,rfl⟩:∃A cp,v=.slice A (FX (L s)).length cp:=by
   rcases hrow.2 with ⟨h,h0⟩ | ⟨g,cap,cur,h,_⟩
   ·exact⟨none,0,by rw[h,h0]⟩
   ·exact⟨_,cap,h⟩
  have hc:=hv.cell;have f0:=c0.frozen;have f1:=c1.frozen;have f2:=c2.frozen;have d0:=c0.cell;have d1:=c1.cell;have d2:=c2.cell
  gi_wp2
  have hKF:=(((blQ W ⟨w.heap.size,0,none⟩ (.slice A (FX (L s)).length cp)).trans (blQ _ ⟨w.heap.size+1,0,none⟩ (.int .i64 0))).trans (blQ _ ⟨w.heap.size+1+1,0,none⟩ (.int .i64 0))).same D _ hK rfl;refine⟨by simp,.inl ⟨_,_,rfl,run_takeDeferred hKF,?_⟩⟩;have g0:=PH (D:=D) (o:=.deferred none) (((c0.set (.slice A (FX (L s)).length cp)).other (B':=w.heap.size+1) (by omega) (.int .i64 0)).other (B':=w.heap.size+1+1) (by omega) (.int .i64 0)) (by omega);have g1:=PH (D:=D) (o:=.deferred none) (((c1.other (B':=w.heap.size) (by omega) (.slice A (FX (L s)).length cp)).set (.int .i64 0)).other (B':=w.heap.size+1+1) (by omega) (.int .i64 0)) (by omega);have g2:=PH (D:=D) (o:=.deferred none) (((c2.other (B':=w.heap.size) (by omega) (.slice A (FX (L s)).length cp)).other (B':=w.heap.size+1) (by omega) (.int .i64 0)).set (.int .i64 0)) (by omega);refine⟨.tuple #[.slice A (FX (L s)).length cp,.int .i64 0,.int .i64 0],?_,?_⟩
  ·have g0':=g0.cell
   have g1':=g1.cell;have g2':=g2.cell;simp[results,Tryz.results34,go_sem,g0',g1',g2']
  ·rw[HO.out]
   refine⟨_,rfl,?_,?_⟩
   ·refine ownsRow_putObj (l:=D) ?_ _ hKF rfl
    have r1:=hrow.kept (grownBy_setCell' W w.heap.size (.slice A (FX (L s)).length cp)) (.inr (c0.not_row (by decide) hrow).symm);have r2:=r1.kept (grownBy_setCell' _ (w.heap.size+1) (.int .i64 0)) (.inr (c1.not_row (by decide) hrow).symm);exact r2.kept (grownBy_setCell' _ (w.heap.size+1+1) (.int .i64 0)) (.inr (c2.not_row (by decide) hrow).symm)
   ·exact(((hB.setCell (p:=⟨w.heap.size,0,none⟩) (aWP _) _).setCell (p:=⟨w.heap.size+1,0,none⟩) (by simp) _).setCell (p:=⟨w.heap.size+1+1,0,none⟩) (by simp;omega) _).trans (belowK_b (w:=w) (aWP _) _ D _ _ (by omega) hKF rfl rfl)
 case stop=>
  rintro D c pre W hD hpre hX hK;obtain⟨⟨rfl,q,x,err,⟨rfl,hG,he⟩,c0,c1,c2⟩,hB⟩:=hX
  have HO:Hid (FC [] (FX (L s))=([],err,x.2.2)):=by
   refine bhH ?_;obtain⟨r,hr⟩:=hpre;rw[<- hr,List.append_assoc,aE [] q _ (by simpa using hG)]
   simp only[bkC,bjR,FC];rcases he with ⟨h1,h2⟩ | ⟨h1,h2,h3⟩
   ·rw[if_pos h1,h2]
   ·rw[if_neg (by omega),if_pos h2,h3]
  have d0:=c0.cell;have d1:=c1.cell;have d2:=c2.cell
  gi_wp2
  refine⟨by simp,.inl ⟨_,_,rfl,run_takeDeferred hK,?_⟩⟩;have g0:=PH (D:=D) (o:=.deferred none) c0 (by omega);have g1:=PH (D:=D) (o:=.deferred none) c1 (by omega);have g2:=PH (D:=D) (o:=.deferred none) c2 (by omega);refine⟨.tuple #[.slice none 0 0,.int .i64 err,.int .i64 x.2.2],?_,?_⟩
  ·have g0':=g0.cell
   have g1':=g1.cell;have g2':=g2.cell;simp[results,Tryz.results34,go_sem,g0',g1',g2']
  ·rw[HO.out]
   exact⟨_,rfl,bpN _ _ _ _,hB.trans (belowK_b (w:=w) (aWP _) W D _ _ (by omega) hK rfl rfl)⟩
def aBX(s:ByteArray)(w:World)(hT:Ph w):Calls Tryz.prog 34 #[.string s] w (pT (Of (L s)) w):=by
 unfold Of;have hl:(L s).length=s.size:=by simp
 rw[hl];by_cases h:6000 < s.size
 ·rw[if_pos h];exact asX s w h
 ·rw[if_neg h];exact alP s w hT (by omega)
end Go.Proofs.YtpbkhogolfegfaaGreatDoor
namespace Go.Proofs
open Go.Shelf
def Tryz.xP:btJ:=⟨λ| 172=>173 | 244=>193 | 245=>194 | 247=>207 | 279=>208 | 280=>209 | 281=>210 | 282=>211 | 287=>224 | 316=>225 | 171=>64 | 205=>226 | 321=>235 | 322=>236 | 243=>114 | 246=>149 | 283=>166 | 284=>167 | 285=>168 | 286=>169 | 129=>189 | 317=>188 | 318=>190 | 319=>191 | 320=>192 | 337=>205 | 338=>206 | n=>n,λ| 9=>9 | 3=>3 | 75=>153 | 76=>154 | 4=>4 | 5=>5 | 167=>182 | 37=>52 | 0=>0 | 85=>183 | 2=>2 | 168=>185 | 53=>146 | 175=>197 | 46=>170 | 210=>201 | 127=>180 | 145=>210 | 143=>208 | 21=>21 | 171=>145 | 173=>149 | 212=>167 | 51=>168 | 20=>20 | 213=>169 | 232=>195 | 233=>196 | 80=>108 | n=>n,λ| 15=>10 | 16=>11 | 17=>4 | 18=>8 | 19=>9 | n=>n⟩
def Tryz.aBV:Go.Proofs.Lays.n172 Tryz.prog Tryz.xP:={
 mixed:=by kernel_rfl
 f129:=Tryz.func189.trans (congrArg some (by kernel_rfl))
 f171:=Tryz.func64.trans (congrArg some (by kernel_rfl))
 f172:=Tryz.func173.trans (congrArg some (by kernel_rfl))
 f205:=Tryz.func226.trans (congrArg some (by kernel_rfl))
 f243:=Tryz.func114.trans (congrArg some (by kernel_rfl))
 f244:=Tryz.func193.trans (congrArg some (by kernel_rfl))
 f245:=Tryz.func194.trans (congrArg some (by kernel_rfl))
 f246:=Tryz.func149.trans (congrArg some (by kernel_rfl))
 f247:=Tryz.func207.trans (congrArg some (by kernel_rfl))
 f279:=Tryz.func208.trans (congrArg some (by kernel_rfl))
 f280:=Tryz.func209.trans (congrArg some (by kernel_rfl))
 f281:=Tryz.func210.trans (congrArg some (by kernel_rfl))
 f282:=Tryz.func211.trans (congrArg some (by kernel_rfl))
 f283:=Tryz.func166.trans (congrArg some (by kernel_rfl))
 f284:=Tryz.func167.trans (congrArg some (by kernel_rfl))
 f285:=Tryz.func168.trans (congrArg some (by kernel_rfl))
 f286:=Tryz.func169.trans (congrArg some (by kernel_rfl))
 f287:=Tryz.func224.trans (congrArg some (by kernel_rfl))
 f316:=Tryz.func225.trans (congrArg some (by kernel_rfl))
 f317:=Tryz.func188.trans (congrArg some (by kernel_rfl))
 f318:=Tryz.func190.trans (congrArg some (by kernel_rfl))
 f319:=Tryz.func191.trans (congrArg some (by kernel_rfl))
 f320:=Tryz.func192.trans (congrArg some (by kernel_rfl))
 f321:=Tryz.func235.trans (congrArg some (by kernel_rfl))
 f322:=Tryz.func236.trans (congrArg some (by kernel_rfl))
 f337:=Tryz.func205.trans (congrArg some (by kernel_rfl))
 f338:=Tryz.func206.trans (congrArg some (by kernel_rfl))
 t0:=Tryz.underlying0
 a0:=Tryz.isAgg0
 z0:=Tryz.sizeOf0
 v0:=Tryz.zeroValue0
 t2:=Tryz.underlying2
 a2:=Tryz.isAgg2
 z2:=Tryz.sizeOf2
 v2:=Tryz.zeroValue2
 t3:=Tryz.underlying3
 a3:=Tryz.isAgg3
 z3:=Tryz.sizeOf3
 v3:=Tryz.zeroValue3
 t4:=Tryz.underlying4
 a4:=Tryz.isAgg4
 z4:=Tryz.sizeOf4
 v4:=Tryz.zeroValue4
 t5:=Tryz.underlying5
 a5:=Tryz.isAgg5
 z5:=Tryz.sizeOf5
 v5:=Tryz.zeroValue5
 t9:=Tryz.underlying9
 a9:=Tryz.isAgg9
 z9:=Tryz.sizeOf9
 v9:=Tryz.zeroValue9
 t20:=Tryz.underlying20
 a20:=Tryz.isAgg20
 z20:=Tryz.sizeOf20
 v20:=Tryz.zeroValue20
 t21:=Tryz.underlying21
 a21:=Tryz.isAgg21
 z21:=Tryz.sizeOf21
 v21:=Tryz.zeroValue21
 t37:=Tryz.underlying52
 a37:=Tryz.isAgg52
 z37:=Tryz.sizeOf52
 v37:=Tryz.zeroValue52
 t46:=Tryz.underlying170
 a46:=Tryz.isAgg170
 z46:=Tryz.sizeOf170
 v46:=Tryz.zeroValue170
 t51:=Tryz.underlying168
 a51:=Tryz.isAgg168
 z51:=Tryz.sizeOf168
 v51:=Tryz.zeroValue168
 t53:=Tryz.underlying146
 a53:=Tryz.isAgg146
 z53:=Tryz.sizeOf146
 v53:=Tryz.zeroValue146
 t75:=Tryz.underlying153
 a75:=Tryz.isAgg153
 z75:=Tryz.sizeOf153
 v75:=Tryz.zeroValue153
 t76:=Tryz.underlying154
 a76:=Tryz.isAgg154
 z76:=Tryz.sizeOf154
 v76:=Tryz.zeroValue154
 t85:=Tryz.underlying183
 a85:=Tryz.isAgg183
 z85:=Tryz.sizeOf183
 v85:=Tryz.zeroValue183
 t127:=Tryz.underlying180
 a127:=Tryz.isAgg180
 z127:=Tryz.sizeOf180
 v127:=Tryz.zeroValue180
 t143:=Tryz.underlying208
 a143:=Tryz.isAgg208
 z143:=Tryz.sizeOf208
 v143:=Tryz.zeroValue208
 t145:=Tryz.underlying210
 a145:=Tryz.isAgg210
 z145:=Tryz.sizeOf210
 v145:=Tryz.zeroValue210
 t167:=Tryz.underlying182
 a167:=Tryz.isAgg182
 z167:=Tryz.sizeOf182
 v167:=Tryz.zeroValue182
 t168:=Tryz.underlying185
 a168:=Tryz.isAgg185
 z168:=Tryz.sizeOf185
 v168:=Tryz.zeroValue185
 t171:=Tryz.underlying145
 a171:=Tryz.isAgg145
 z171:=Tryz.sizeOf145
 v171:=Tryz.zeroValue145
 t173:=Tryz.underlying149
 a173:=Tryz.isAgg149
 z173:=Tryz.sizeOf149
 v173:=Tryz.zeroValue149
 t175:=Tryz.underlying197
 a175:=Tryz.isAgg197
 z175:=Tryz.sizeOf197
 v175:=Tryz.zeroValue197
 t210:=Tryz.underlying201
 a210:=Tryz.isAgg201
 z210:=Tryz.sizeOf201
 v210:=Tryz.zeroValue201
 t212:=Tryz.underlying167
 a212:=Tryz.isAgg167
 z212:=Tryz.sizeOf167
 v212:=Tryz.zeroValue167
 t213:=Tryz.underlying169
 a213:=Tryz.isAgg169
 z213:=Tryz.sizeOf169
 t232:=Tryz.underlying195
 a232:=Tryz.isAgg195
 z232:=Tryz.sizeOf195
 v232:=Tryz.zeroValue195
 t233:=Tryz.underlying196
 a233:=Tryz.isAgg196
 z233:=Tryz.sizeOf196
 v233:=Tryz.zeroValue196
 g15:=by kernel_rfl
 g16:=by kernel_rfl
 g17:=by kernel_rfl
 g18:=by kernel_rfl
 g19:=by kernel_rfl }
open Go.RowKit in
def Tryz.strconv_Atoi(s:ByteArray)(n:Int)(hl:s.size<=18)(h:Lib.atoi s.data.toList=some n)(w:World) :
   Calls Tryz.prog 173 #[.string s] w λe w'=>e=.returned (.tuple #[.int .i64 n,.nilIface])/\∃t,w'=Lib.bytesWorld w 5 t:=Any.strconv_Atoi Tryz.aBV s n hl h w
def Tryz.aD:btJ:=⟨λ| 154=>163 | 138=>180 | 165=>181 | 143=>182 | 166=>183 | 197=>184 | 169=>185 | 195=>198 | 218=>199 | 240=>200 | 241=>201 | 219=>202 | 260=>203 | 276=>217 | 277=>218 | 217=>219 | 225=>220 | 224=>221 | 267=>222 | 266=>230 | 314=>231 | n=>n,λ| 9=>9 | 3=>3 | 4=>4 | 72=>162 | 0=>0 | 76=>154 | 105=>164 | 21=>21 | 5=>5 | 70=>160 | 20=>20 | 37=>52 | 75=>153 | 127=>180 | 164=>188 | 46=>170 | 119=>191 | 139=>194 | 138=>193 | 146=>204 | 51=>168 | 80=>108 | n=>n,λ| 1=>5 | 3=>6 | 4=>7 | n=>n⟩
def Tryz.aBU:Go.Proofs.Lays.n154 Tryz.prog Tryz.aD:={
 mixed:=by kernel_rfl
 f138:=Tryz.func180.trans (congrArg some (by kernel_rfl))
 f143:=Tryz.func182.trans (congrArg some (by kernel_rfl))
 f154:=Tryz.func163.trans (congrArg some (by kernel_rfl))
 f165:=Tryz.func181.trans (congrArg some (by kernel_rfl))
 f166:=Tryz.func183.trans (congrArg some (by kernel_rfl))
 f169:=Tryz.func185.trans (congrArg some (by kernel_rfl))
 f195:=Tryz.func198.trans (congrArg some (by kernel_rfl))
 f197:=Tryz.func184.trans (congrArg some (by kernel_rfl))
 f217:=Tryz.func219.trans (congrArg some (by kernel_rfl))
 f218:=Tryz.func199.trans (congrArg some (by kernel_rfl))
 f219:=Tryz.func202.trans (congrArg some (by kernel_rfl))
 f224:=Tryz.func221.trans (congrArg some (by kernel_rfl))
 f225:=Tryz.func220.trans (congrArg some (by kernel_rfl))
 f240:=Tryz.func200.trans (congrArg some (by kernel_rfl))
 f241:=Tryz.func201.trans (congrArg some (by kernel_rfl))
 f260:=Tryz.func203.trans (congrArg some (by kernel_rfl))
 f266:=Tryz.func230.trans (congrArg some (by kernel_rfl))
 f267:=Tryz.func222.trans (congrArg some (by kernel_rfl))
 f276:=Tryz.func217.trans (congrArg some (by kernel_rfl))
 f277:=Tryz.func218.trans (congrArg some (by kernel_rfl))
 f314:=Tryz.func231.trans (congrArg some (by kernel_rfl))
 t0:=Tryz.underlying0
 a0:=Tryz.isAgg0
 z0:=Tryz.sizeOf0
 v0:=Tryz.zeroValue0
 t3:=Tryz.underlying3
 a3:=Tryz.isAgg3
 z3:=Tryz.sizeOf3
 v3:=Tryz.zeroValue3
 t4:=Tryz.underlying4
 a4:=Tryz.isAgg4
 z4:=Tryz.sizeOf4
 v4:=Tryz.zeroValue4
 t5:=Tryz.underlying5
 a5:=Tryz.isAgg5
 z5:=Tryz.sizeOf5
 v5:=Tryz.zeroValue5
 t9:=Tryz.underlying9
 a9:=Tryz.isAgg9
 z9:=Tryz.sizeOf9
 v9:=Tryz.zeroValue9
 t20:=Tryz.underlying20
 a20:=Tryz.isAgg20
 z20:=Tryz.sizeOf20
 v20:=Tryz.zeroValue20
 t21:=Tryz.underlying21
 a21:=Tryz.isAgg21
 z21:=Tryz.sizeOf21
 v21:=Tryz.zeroValue21
 t37:=Tryz.underlying52
 a37:=Tryz.isAgg52
 z37:=Tryz.sizeOf52
 v37:=Tryz.zeroValue52
 t46:=Tryz.underlying170
 a46:=Tryz.isAgg170
 z46:=Tryz.sizeOf170
 v46:=Tryz.zeroValue170
 t51:=Tryz.underlying168
 a51:=Tryz.isAgg168
 z51:=Tryz.sizeOf168
 v51:=Tryz.zeroValue168
 t70:=Tryz.underlying160
 a70:=Tryz.isAgg160
 z70:=Tryz.sizeOf160
 v70:=Tryz.zeroValue160
 t72:=Tryz.underlying162
 a72:=Tryz.isAgg162
 z72:=Tryz.sizeOf162
 v72:=Tryz.zeroValue162
 t75:=Tryz.underlying153
 a75:=Tryz.isAgg153
 z75:=Tryz.sizeOf153
 v75:=Tryz.zeroValue153
 t76:=Tryz.underlying154
 a76:=Tryz.isAgg154
 z76:=Tryz.sizeOf154
 v76:=Tryz.zeroValue154
 t105:=Tryz.underlying164
 a105:=Tryz.isAgg164
 z105:=Tryz.sizeOf164
 v105:=Tryz.zeroValue164
 t119:=Tryz.underlying191
 a119:=Tryz.isAgg191
 z119:=Tryz.sizeOf191
 t127:=Tryz.underlying180
 a127:=Tryz.isAgg180
 z127:=Tryz.sizeOf180
 v127:=Tryz.zeroValue180
 t138:=Tryz.underlying193
 a138:=Tryz.isAgg193
 z138:=Tryz.sizeOf193
 v138:=Tryz.zeroValue193
 t139:=Tryz.underlying194
 a139:=Tryz.isAgg194
 z139:=Tryz.sizeOf194
 v139:=Tryz.zeroValue194
 t146:=Tryz.underlying204
 a146:=Tryz.isAgg204
 z146:=Tryz.sizeOf204
 v146:=Tryz.zeroValue204
 t164:=Tryz.underlying188
 a164:=Tryz.isAgg188
 z164:=Tryz.sizeOf188
 v164:=Tryz.zeroValue188
 g1:=by kernel_rfl
 g3:=by kernel_rfl
 g4:=by kernel_rfl }
def Tryz.XM:Builder.Extra Tryz.prog Tryz.aD:={
 sizeBuilder:=by kernel_rfl
 liesBuilder:=by kernel_rfl
 t5:=Tryz.underlying5
 a5:=Tryz.isAgg5
 z5:=Tryz.sizeOf5
 v5:=Tryz.zeroValue5
 infoByte:=by kernel_rfl
 cellsByte:=by kernel_rfl
 sizeByte:=by kernel_rfl
 neB5:=by decide }
open Go.RowKit Go.Lib in
def Tryz.strings_Replace(s old new:ByteArray)(n:Int)(m:Int)(w:World)(hs:s.size < 4294967281)(hm:w.cell? ⟨5,0,none⟩=some (.int .i64 m))(h1:1<=old.size)(hlen:s.size+Lib.countB s old*new.size<=140737488355328) :
   Calls Tryz.prog 163 #[.string s,.string old,.string new,.int .i64 n] w λe w'=>
    e=.returned (.string ⟨(Lib.replace s.data.toList old.data.toList new.data.toList n).toArray⟩)/\Below w.heap.size w w':=Any.strings_Replace Tryz.aBU Tryz.XM s old new n m w hs hm h1 hlen
end Go.Proofs
namespace Go.Proofs.YtpbkhogolfegfaaGreatDoor
open AI Go LexS
def Hp(s:List UInt8):AV:=.sc (.string ⟨s.toArray⟩)
namespace Hd
def aAC:List AV:=(List.range 128).map λi=>.sc (.int .u8 (O4 i:Nat))
def aEV:List AV:=G4.map Hp
def int(n:Int):AV:=.sc (.int .i64 n)
def aFT(n:Int):AV:=.sc (.int .u64 n)
def G(mx:Int):AN:=λg=>
 match biS g 2 with|true=>some [Hp [111,114],Hp [],Hp [],Hp [],Hp [],Hp [],Hp [97,110,100],Hp [],Hp [],Hp [],Hp [],Hp [],Hp [],Hp [],Hp [],Hp [],Hp [],Hp [],Hp [61,61],Hp [33,61],Hp [60],Hp [60,61],Hp [62],Hp [62,61],Hp [43],Hp [45],Hp [],Hp [],Hp [],Hp [],Hp [42],Hp [47],Hp [97,116],Hp [],Hp [],Hp []]|false=>match biS g 1 with|true=>some [Hp [],Hp [101,97,114,110],Hp [100,101,100,117,99,116],Hp [102,108,111,111,114],Hp [105,110,102,111]]|false=>match biS g 12 with|true=>some [int 0,int 31,int 59,int 90,int 120,int 151,int 181,int 212,int 243,int 273,int 304,int 334,int 365]|false=>match biS g 3 with|true=>some aAC|false=>match biS g 0 with|true=>some aEV|false=>match biS g 5 with|true=>some [int mx]|false=>match biS g 4 with|true=>some (Lib.pow10Tab.map aFT)|false=>none
variable {mx:Int}
def mixed:Tryz.prog.follows .mixedOrders=true:=by kernel_rfl
def jB:∀l:List (List UInt8),BC (l.map Hp)=true
 |[]=>rfl
 |s::l=>by
  show(true&&BC (l.map Hp))=true;rw[jB l];rfl
def yN:∀l:List Nat,BC (l.map λi=>(.sc (.int .u8 (O4 i:Nat)):AV))=true
 |[]=>rfl
 |s::l=>by
  show(true&&BC (l.map λi=>(.sc (.int .u8 (O4 i:Nat)):AV)))=true;rw[yN l];rfl
def oM:∀l:List Int,BC (l.map aFT)=true
 |[]=>rfl
 |s::l=>by
  show(true&&BC (l.map aFT))=true;rw[oM l];rfl
def W7(g:Nat)(cs:List AV)(h:G mx g=some cs):BC cs=true:=by unfold G at h;split at h;cases h;rfl;split at h;cases h;rfl;split at h;cases h;rfl;split at h;cases h;exact yN _;split at h;cases h;exact jB _;split at h;cases h;rfl;split at h;cases h;exact oM _;cases h
end Hd
end Go.Proofs.YtpbkhogolfegfaaGreatDoor
namespace Go.Proofs.YtpbkhogolfegfaaGreatDoor
open AI Go
namespace Mo
abbrev P:Program:=Tryz.prog
abbrev G(mx:Int):AN:=Hd.G mx
variable {G0:AN}
def XH{i n:Nat}(h:i < n):Cy ((i:Nat):Int) ((n:Nat):Int)=true:=by rw[Tc];simp;exact h
def ltF{i n:Nat}(h:n<=i):Cy ((i:Nat):Int) ((n:Nat):Int)=false:=by rw[Tc];simp;omega
def F3{a b:Int}(h:A8 a b=true):a=b:=by rw[UL] at h;simpa using h
def wG{a b:Int}(h:A8 a b=false):a≠b:=by rw[UL] at h;simpa using h
def aYJ{a b:Int}(h:My a b=false):b < a:=by rw[iM] at h;have:=of_decide_eq_false h;omega
def iR{a b:Int}(h:Cy a b=true):a < b:=by rw[Tc] at h;exact of_decide_eq_true h
def Lx{a b:Int}(h:Cy a b=false):b<=a:=by rw[Tc] at h;have:=of_decide_eq_false h;omega
def C4{a b:Int}(h:a=b):A8 a b=true:=by rw[UL];simpa using h
def DE{a b:Int}(h:a≠b):A8 a b=false:=by rw[UL];simpa using h
def T6{a b:Int}(h:a<=b):My a b=true:=by rw[iM];exact decide_eq_true h
def P7{a b:Int}(h:b < a):My a b=false:=by rw[iM];exact decide_eq_false (by omega)
def En{a b:Int}(h:a < b):Cy a b=true:=by rw[Tc];exact decide_eq_true h
def Dv{a b:Int}(h:b<=a):Cy a b=false:=by rw[Tc];exact decide_eq_false (by omega)
def gD{a b:ByteArray}(h:Bd a.data.toList b.data.toList=true):a=b:=by rw[RC] at h;exact ByteArray.ext (Array.ext' (eq_of_beq h))
def fbp{n m:Nat}(a:List AV)(h:BC a=true):FB n m:=⟨.cells a,.cells a,.cells (.plain h)⟩
def bfS{n:Nat}{l:List AV}(h:BC l=true):plain (.sl .lost n l)=true:=by simp only[plain,h];rfl
def iE(x:Int):List AV:=[.sc (.int .i64 x)]
def stC(x:ByteArray):List AV:=[.sc (.string x)]
def iK:Pg iE (rows iE) 1:=⟨λ_=>rfl,λ_=>rfl,λ_=>rfl⟩
def OS:Pg stC (rows stC) 1:=⟨λ_=>rfl,λ_=>rfl,λ_=>rfl⟩
structure Pc where
 fr:Int
 AO:Int
 Fs:Int
def Nz(x:Pc):List AV:=[.sc (.int .i64 x.fr),.sc (.int .i64 x.AO),.sc (.int .i64 x.Fs)]
def I6:Pg Nz (rows Nz) 3:=⟨λ_=>rfl,λ_=>rfl,λx=>(Pa rfl (Pa rfl (Pa rfl rfl)))⟩
structure Pt where
 fr:Int
 AO:Int
 num:Int
 den:Int
def oN(x:Pt):List AV:=[.sc (.int .i64 x.fr),.sc (.int .i64 x.AO),.sc (.int .i64 x.num),.sc (.int .i64 x.den)]
def oA:Pg oN (rows oN) 4:=⟨λ_=>rfl,λ_=>rfl,λx=>(Pa rfl (Pa rfl (Pa rfl (Pa rfl rfl))))⟩
structure Fn where
 den:Int
 ps:(List Pc)
def fnC(x:Fn):List AV:=[.sc (.int .i64 x.den),.sl .lost x.ps.length (rows Nz x.ps)]
def aYG:Pg fnC (rows fnC) 2:=⟨λ_=>rfl,λ_=>rfl,λx=>(Pa rfl (Pa (I6.plS x.ps) rfl))⟩
structure Nd where
 kind:Int
 name:ByteArray
 unit:ByteArray
 n:Int
 fr:Int
 to:Int
 known:Int
 CW:Fn
 kids:(List Nd)
 AO:Int
mutual
def ndK:Nd->List AV
 |⟨kind,name,unit,n,fr,to,known,CW,kids,AO⟩=>[.sc (.int .i64 kind),.sc (.string name),.sc (.string unit),.sc (.int .i64 n),.sc (.int .i64 fr),.sc (.int .i64 to),.sc (.int .i64 known),.sc (.int .i64 CW.den),.sl .lost CW.ps.length (rows Nz CW.ps),.sl .lost kids.length (Br kids),.sc (.int .i64 AO)]
def Br:List Nd->List AV
 |[]=>[]
 |k::ks=>ndK k++Br ks
end
def Dh(x:Nd):List AV:=[.sc (.int .i64 x.kind),.sc (.string x.name),.sc (.string x.unit),.sc (.int .i64 x.n),.sc (.int .i64 x.fr),.sc (.int .i64 x.to),.sc (.int .i64 x.known),.sc (.int .i64 x.CW.den),.sl .lost x.CW.ps.length (rows Nz x.CW.ps),.sl .lost x.kids.length (Br x.kids),.sc (.int .i64 x.AO)]
def adL(x:Nd):ndK x=Dh x:=by cases x;rfl
def LZ(l:List Nd):Br l=rows Dh l:=by induction l with|nil=>rfl|cons k ks ih=>rw[Fq,Br,ih,adL]
mutual
def auB:∀x:Nd,BC (ndK x)=true
 |⟨kind,name,unit,n,fr,to,known,CW,kids,AO⟩=>by rw[ndK];exact(Pa rfl (Pa rfl (Pa rfl (Pa rfl (Pa rfl (Pa rfl (Pa rfl (Pa rfl (Pa (I6.plS CW.ps) (Pa (bfS (ahA kids)) (Pa rfl rfl)))))))))))
def ahA:∀l:List Nd,BC (Br l)=true
 |[]=>rfl
 |k::ks=>by rw[Br];exact aZL (auB k) (ahA ks)
end
def Gq:Pg Dh Br 11:=⟨LZ,λ_=>rfl,λx=>by rw[<- adL];exact auB x⟩
structure Tk where
 kind:Int
 text:ByteArray
 AO:Int
def Mz(x:Tk):List AV:=[.sc (.int .i64 x.kind),.sc (.string x.text),.sc (.int .i64 x.AO)]
def iL:Pg Mz (rows Mz) 3:=⟨λ_=>rfl,λ_=>rfl,λx=>(Pa rfl (Pa rfl (Pa rfl rfl)))⟩
structure Dg where
 err:Int
 AO:Int
def Wf(x:Dg):List AV:=[.sc (.int .i64 x.err),.sc (.int .i64 x.AO)]
def nZ:Pg Wf (rows Wf) 2:=⟨λ_=>rfl,λ_=>rfl,λx=>(Pa rfl (Pa rfl rfl))⟩
structure Pr where
 Bm:(List Tk)
 Og:Int
 D8:Int
def prC(x:Pr):List AV:=[.sl .lost x.Bm.length (rows Mz x.Bm),.sc (.int .i64 x.Og),.sc (.int .i64 x.D8)]
def aYH:Pg prC (rows prC) 3:=⟨λ_=>rfl,λ_=>rfl,λx=>(Pa (iL.plS x.Bm) (Pa rfl (Pa rfl rfl)))⟩
structure Ps where
 l:(List Tk)
 at_:Int
 end_:Int
 err:Int
 GK:Int
def psC(x:Ps):List AV:=[.sl .lost x.l.length (rows Mz x.l),.sc (.int .i64 x.at_),.sc (.int .i64 x.end_),.sc (.int .i64 x.err),.sc (.int .i64 x.GK)]
def aYI:Pg psC (rows psC) 5:=⟨λ_=>rfl,λ_=>rfl,λx=>(Pa (iL.plS x.l) (Pa rfl (Pa rfl (Pa rfl (Pa rfl rfl)))))⟩
structure Ck where
 nodes:Int
def nB(x:Ck):List AV:=[.sc (.int .i64 x.nodes)]
def aYF:Pg nB (rows nB) 1:=⟨λ_=>rfl,λ_=>rfl,λx=>(Pa rfl rfl)⟩
def u24:P.underlying 24=some (.slice 64):=by kernel_rfl
def s64:(P.info? 64).map (·.size)=some 3:=by kernel_rfl
def i64:(P.info? 64).map (λi=>(i.size,i.bytes,i.zero.map (·.cells.size)))=some (3,24,some 3):=by kernel_rfl
def xI(own:AI.Own){l:List Pc}{i:Nat}{x:Pc}(h:l[i]?=some x):CQ P 24 (.sl own l.length (rows Nz l)) (.sc (.int .i64 ((i:Nat):Int)))=some (.el (Nz x++rows Nz (l.drop (i+1)))):=I6.ix u24 s64 own h
def asK(own:AI.Own){l:List Pc}{z:Int}{x:Pc}(h:Dk l z=some x):CQ P 24 (.sl own l.length (rows Nz l)) (.sc (.int .i64 z))=some (.el (Nz x++rows Nz (l.drop (z.toNat+1)))):=I6.ixz u24 s64 own h
def aIN(own:AI.Own)(l m:List Pc){o:AI.Own}{n:Nat}{ns:List AV}(hn:Wn ns (rows Nz m))(rN:n=m.length)(ho:ns.all one=true)(hm:m.length≠0)(hlen:l.length+m.length<=100000000):Cd.ok P G0 (.bF 24 24 own l.length (rows Nz l) (.sl o n ns) 3 (l++m).length (rows Nz (l++m))):=I6.bF u24 u24 i64 (by decide) (by decide) own l m hn rN ho hm hlen
def bbY(own:AI.Own)(l m:List Pc){o:AI.Own}(s:AS)(hm:m.length=0)(hlen:l.length+m.length<=100000000):Cd.ok P G0 (.WH s 24 24 (.sl own l.length (rows Nz l)) (.sl o m.length (rows Nz m)) (.sl own l.length (rows Nz l)) s):=I6.ga u24 u24 i64 (by decide) (by decide) own l m s hm hlen
def u27:P.underlying 27=some (.slice 29):=by kernel_rfl
def s29:(P.info? 29).map (·.size)=some 11:=by kernel_rfl
def i29:(P.info? 29).map (λi=>(i.size,i.bytes,i.zero.map (·.cells.size)))=some (11,136,some 11):=by kernel_rfl
def Gh(own:AI.Own){l:List Nd}{i:Nat}{x:Nd}(h:l[i]?=some x):CQ P 27 (.sl own l.length (Br l)) (.sc (.int .i64 ((i:Nat):Int)))=some (.el (Dh x++Br (l.drop (i+1)))):=Gq.ix u27 s29 own h
def Q8(own:AI.Own)(l m:List Nd){o:AI.Own}{n:Nat}{ns:List AV}(hn:Wn ns (Br m))(rN:n=m.length)(ho:ns.all one=true)(hm:m.length≠0)(hlen:l.length+m.length<=100000000):Cd.ok P G0 (.bF 27 27 own l.length (Br l) (.sl o n ns) 11 (l++m).length (Br (l++m))):=Gq.bF u27 u27 i29 (by decide) (by decide) own l m hn rN ho hm hlen
def acO(own:AI.Own)(l m:List Nd){o:AI.Own}{n:Nat}{ns cs:List AV}(e:cs=Br l)(hn:Wn ns (Br m))(rN:n=m.length)(ho:ns.all one=true)(hm:m.length≠0)(hlen:l.length+m.length<=100000000):Cd.ok P G0 (.bF 27 27 own l.length cs (.sl o n ns) 11 (l++m).length (Br (l++m))):=e▸Q8 own l m hn rN ho hm hlen
def aIM(own:AI.Own)(l m:List Nd){o:AI.Own}(hm:¬m.length=0)(hlen:l.length+m.length<=100000000):Cd.ok P G0 (.bF 27 27 own l.length (Br l) (.sl o m.length (Br m)) 11 (l++m).length (Br (l++m))):=Gq.bF u27 u27 i29 (by decide) (by decide) own l m (Wn.refl _) rfl (Gq.abR (λ_=>rfl) m) hm hlen
def aUK(m:List Nd){o:AI.Own}(hm:¬m.length=0)(hlen:m.length<=100000000):Cd.ok P G0 (.apB 27 27 (.sl .full 0 []) (.sl o m.length (Br m)) m.length (.cells (Br m))):=Gq.apm u27 u27 i29 (by decide) (by decide) (λ_=>rfl) m hm hlen
def aWB(own:AI.Own)(l m:List Nd){o:AI.Own}(s:AS)(hm:m.length=0)(hlen:l.length+m.length<=100000000):Cd.ok P G0 (.WH s 27 27 (.sl own l.length (Br l)) (.sl o m.length (Br m)) (.sl own l.length (Br l)) s):=Gq.ga u27 u27 i29 (by decide) (by decide) own l m s hm hlen
def u30:P.underlying 30=some (.slice 45):=by kernel_rfl
def s45:(P.info? 45).map (·.size)=some 2:=by kernel_rfl
def i45:(P.info? 45).map (λi=>(i.size,i.bytes,i.zero.map (·.cells.size)))=some (2,16,some 2):=by kernel_rfl
def alJ(own:AI.Own){l:List Dg}{i:Nat}{x:Dg}(h:l[i]?=some x):CQ P 30 (.sl own l.length (rows Wf l)) (.sc (.int .i64 ((i:Nat):Int)))=some (.el (Wf x++rows Wf (l.drop (i+1)))):=nZ.ix u30 s45 own h
def aIO(own:AI.Own)(l m:List Dg){o:AI.Own}{n:Nat}{ns:List AV}(hn:Wn ns (rows Wf m))(rN:n=m.length)(ho:ns.all one=true)(hm:m.length≠0)(hlen:l.length+m.length<=100000000):Cd.ok P G0 (.bF 30 30 own l.length (rows Wf l) (.sl o n ns) 2 (l++m).length (rows Wf (l++m))):=nZ.bF u30 u30 i45 (by decide) (by decide) own l m hn rN ho hm hlen
def u38:P.underlying 38=some (.slice 43):=by kernel_rfl
def s43:(P.info? 43).map (·.size)=some 3:=by kernel_rfl
def i43:(P.info? 43).map (λi=>(i.size,i.bytes,i.zero.map (·.cells.size)))=some (3,32,some 3):=by kernel_rfl
def Iy(own:AI.Own){l:List Tk}{z:Int}{x:Tk}(h:Dk l z=some x):CQ P 38 (.sl own l.length (rows Mz l)) (.sc (.int .i64 z))=some (.el (Mz x++rows Mz (l.drop (z.toNat+1)))):=iL.ixz u38 s43 own h
def aWE(own:AI.Own)(l m:List Tk){o:AI.Own}{n:Nat}{ns:List AV}(hn:Wn ns (rows Mz m))(rN:n=m.length)(ho:ns.all one=true)(hm:m.length≠0)(hlen:l.length+m.length<=100000000):Cd.ok P G0 (.bF 38 38 own l.length (rows Mz l) (.sl o n ns) 3 (l++m).length (rows Mz (l++m))):=iL.bF u38 u38 i43 (by decide) (by decide) own l m hn rN ho hm hlen
def u57:P.underlying 57=some (.slice 9):=by kernel_rfl
def s9:(P.info? 9).map (·.size)=some 1:=by kernel_rfl
def aBR(own:AI.Own){l:List ByteArray}{i:Nat}{x:ByteArray}(h:l[i]?=some x):CQ P 57 (.sl own l.length (rows stC l)) (.sc (.int .i64 ((i:Nat):Int)))=some (.el (stC x++rows stC (l.drop (i+1)))):=OS.ix u57 s9 own h
def agP(own:AI.Own){l:List ByteArray}{z:Int}{x:ByteArray}(h:Dk l z=some x):CQ P 57 (.sl own l.length (rows stC l)) (.sc (.int .i64 z))=some (.el (stC x++rows stC (l.drop (z.toNat+1)))):=OS.ixz u57 s9 own h
def aFS:P.underlying 174=some (.slice 176):=by kernel_rfl
def aZZ:(P.info? 176).map (·.size)=some 4:=by kernel_rfl
def i176:(P.info? 176).map (λi=>(i.size,i.bytes,i.zero.map (·.cells.size)))=some (4,32,some 4):=by kernel_rfl
def aXW(own:AI.Own){l:List Pt}{i:Nat}{x:Pt}(h:l[i]?=some x):CQ P 174 (.sl own l.length (rows oN l)) (.sc (.int .i64 ((i:Nat):Int)))=some (.el (oN x++rows oN (l.drop (i+1)))):=oA.ix aFS aZZ own h
def aPM(own:AI.Own){l:List Pt}{z:Int}{x:Pt}(h:Dk l z=some x):CQ P 174 (.sl own l.length (rows oN l)) (.sc (.int .i64 z))=some (.el (oN x++rows oN (l.drop (z.toNat+1)))):=oA.ixz aFS aZZ own h
def aNW(own:AI.Own)(l m:List Pt){o:AI.Own}{n:Nat}{ns:List AV}(hn:Wn ns (rows oN m))(rN:n=m.length)(ho:ns.all one=true)(hm:m.length≠0)(hlen:l.length+m.length<=100000000):Cd.ok P G0 (.bF 174 174 own l.length (rows oN l) (.sl o n ns) 4 (l++m).length (rows oN (l++m))):=oA.bF aFS aFS i176 (by decide) (by decide) own l m hn rN ho hm hlen
def aSO:P.underlying 211=some (.slice 3):=by kernel_rfl
def s3:(P.info? 3).map (·.size)=some 1:=by kernel_rfl
def i3:(P.info? 3).map (λi=>(i.size,i.bytes,i.zero.map (·.cells.size)))=some (1,8,some 1):=by kernel_rfl
def aPN(own:AI.Own){l:List Int}{z:Int}{x:Int}(h:Dk l z=some x):CQ P 211 (.sl own l.length (rows iE l)) (.sc (.int .i64 z))=some (.el (iE x++rows iE (l.drop (z.toNat+1)))):=iK.ixz aSO s3 own h
def aNX(own:AI.Own)(l m:List Int){o:AI.Own}{n:Nat}{ns:List AV}(hn:Wn ns (rows iE m))(rN:n=m.length)(ho:ns.all one=true)(hm:m.length≠0)(hlen:l.length+m.length<=100000000):Cd.ok P G0 (.bF 211 211 own l.length (rows iE l) (.sl o n ns) 1 (l++m).length (rows iE (l++m))):=iK.bF aSO aSO i3 (by decide) (by decide) own l m hn rN ho hm hlen
def aJC{id n i:Nat}(h:i < n):CQ P 27 (.Im id 0 n) (.sc (.int .i64 ((i:Nat):Int)))=some (.ptr id (0+i*11)):=Gq.ixm u27 s29 h
def w64(x:Int):Int:=bmL.wrap x
def lE(x y:Int):Int:=bmL.wrap (x.tdiv y)
def XC(x y:Int):Int:=x.tmod y
def OM(x y:Int):Option Int:=if y=0 then none else some (lE x y)
def VR(x y:Int):Option Int:=if y=0 then none else some (XC x y)
def SN(s:ByteArray)(l h:Int):Option ByteArray:=if 0<=l/\l<=h/\h<=((s.data.toList.length:Nat):Int) then some ⟨((s.data.toList.drop l.toNat).take (h.toNat - l.toNat)).toArray⟩ else none
def cE{α:Type}(s:List α)(l h:Int):Option (List α):=if 0<=l/\l<=h/\h<=((s.length:Nat):Int) then some ((s.drop l.toNat).take (h.toNat - l.toNat)) else none
def qD(z:Int)(h:0<=z):Uc (.sc (.int .i64 z))=some z.toNat:=by unfold Uc;simp[h]
def M1{a b c:Int}(h:OM a b=some c)(x y:Operand):N3 P .quo 3 x y (.sc (.int .i64 a)) (.sc (.int .i64 b))=some (.sc (.int .i64 c)):=by unfold OM at h;split at h;cases h;rename_i hb;cases h;simp[N3,Wb,YI,eqGuard,binOp,Op.intDiv,hb,AI.pv,mI,scalar,lE,Bind.bind,Sem.bind,Pure.pure]
def TI{a b c:Int}(h:VR a b=some c)(x y:Operand):N3 P .rem 3 x y (.sc (.int .i64 a)) (.sc (.int .i64 b))=some (.sc (.int .i64 c)):=by unfold VR at h;split at h;cases h;rename_i hb;cases h;simp[N3,Wb,YI,eqGuard,binOp,Op.intDiv,hb,AI.pv,mI,scalar,XC,Bind.bind,Sem.bind,Pure.pure]
def us9:P.underlying 9=some .string:=by kernel_rfl
def Ue{s:ByteArray}{i:Nat}{c:UInt8}(h:s.data.toList[i]?=some c):MH P 9 (.sc (.string s)) (.sc (.int .i64 ((i:Nat):Int)))=some (.sc (.int .u8 ((c.toNat:Nat):Int))):=by unfold MH;rw[us9,qD _ (by omega)];simp only[biN,h]
def MN{s:ByteArray}{z:Int}{c:UInt8}(h:Dk s.data.toList z=some c):MH P 9 (.sc (.string s)) (.sc (.int .i64 z))=some (.sc (.int .u8 ((c.toNat:Nat):Int))):=by unfold Dk at h;split at h;rename_i hz;have:=Ue h;rwa[Int.toNat_of_nonneg hz] at this;cases h
def NF{s v:ByteArray}{l h:Int}(e:SN s l h=some v):Nn P 9 (.sc (.string s)) (some (.sc (.int .i64 l))) (some (.sc (.int .i64 h))) none=some (.sc (.string v)):=by unfold SN at e;split at e;rename_i hc;cases e;unfold Nn;rw[us9];simp only[PP,qD l hc.1,qD h (by omega)];rw[if_pos ⟨by omega,by omega⟩];cases e
def aEU(l h:Nat){s:List Nd}(h1:l<=h)(h2:h<=s.length)(lo hi:Option AV)(e1:PP 0 lo=some l)(e2:PP s.length hi=some h):Nn P 27 (.sl .lost s.length (Br s)) lo hi none=some (.sl .lost ((s.drop l).take (h - l)).length (Br ((s.drop l).take (h - l)))):=Gq.sub u27 s29 l h h1 h2 lo hi e1 e2
def VI{s v:List Nd}{l:Int}(e:cE s l ((s.length:Nat):Int)=some v):Nn P 27 (.sl .lost s.length (Br s)) (some (.sc (.int .i64 l))) (none) none=some (.sl .lost v.length (Br v)):=by unfold cE at e;split at e;rename_i hc;cases e;exact aEU _ _ (by omega) (by omega) _ _ (qD l hc.1) rfl;cases e
def R3(x y:Pc):Bool:=x.fr == y.fr&&(x.AO == y.AO&&(x.Fs == y.Fs))
def aeK(x y:Pc):lQ [.int .i64 x.fr,.int .i64 x.AO,.int .i64 x.Fs] [.int .i64 y.fr,.int .i64 y.AO,.int .i64 y.Fs]=some (R3 x y):=by simp only[lQ,fEq,R3,if_true,Uu];cases (x.fr == y.fr)<;>cases (x.AO == y.AO)<;>cases (x.Fs == y.Fs)<;>rfl
def aNQ:Flat P 64 [1,1,1]:=⟨by kernel_rfl,by kernel_rfl,by kernel_rfl,by kernel_rfl,by kernel_rfl,by kernel_rfl⟩
def oD{x y:Pc}{b:Bool}(h:R3 x y=b)(ox oy:Operand):N3 P .neq 64 ox oy (.agg (Nz x)) (.agg (Nz y))=some (.sc (.bool (!b))):=by subst h;exact(aNQ.bin (us:=[.int .i64 x.fr,.int .i64 x.AO,.int .i64 x.Fs]) (vs:=[.int .i64 y.fr,.int .i64 y.AO,.int .i64 y.Fs]) ⟨.inl ⟨_,rfl,rfl⟩,⟨.inl ⟨_,rfl,rfl⟩,⟨.inl ⟨_,rfl,rfl⟩,trivial⟩⟩⟩ ⟨.inl ⟨_,rfl,rfl⟩,⟨.inl ⟨_,rfl,rfl⟩,⟨.inl ⟨_,rfl,rfl⟩,trivial⟩⟩⟩ (aeK x y) ox oy).2
def Xm(x y:Dg):Bool:=x.err == y.err&&(x.AO == y.AO)
def aeI(x y:Dg):lQ [.int .i64 x.err,.int .i64 x.AO] [.int .i64 y.err,.int .i64 y.AO]=some (Xm x y):=by simp only[lQ,fEq,Xm,if_true,Uu];cases (x.err == y.err)<;>cases (x.AO == y.AO)<;>rfl
def aNP:Flat P 45 [1,1]:=⟨by kernel_rfl,by kernel_rfl,by kernel_rfl,by kernel_rfl,by kernel_rfl,by kernel_rfl⟩
def ahB{x y:Dg}{b:Bool}(h:Xm x y=b)(ox oy:Operand):N3 P .neq 45 ox oy (.agg (Wf x)) (.agg (Wf y))=some (.sc (.bool (!b))):=by subst h;exact(aNP.bin (us:=[.int .i64 x.err,.int .i64 x.AO]) (vs:=[.int .i64 y.err,.int .i64 y.AO]) ⟨.inl ⟨_,rfl,rfl⟩,⟨.inl ⟨_,rfl,rfl⟩,trivial⟩⟩ ⟨.inl ⟨_,rfl,rfl⟩,⟨.inl ⟨_,rfl,rfl⟩,trivial⟩⟩ (aeI x y) ox oy).2
def beforeL:List Int:=[0,31,59,90,120,151,181,212,243,273,304,334,365]
def adB{z:Int}{x:Int}(h:Dk beforeL z=some x):CQ P 203 (.el (rows iE beforeL)) (.sc (.int .i64 z))=some (.el (iE x++rows iE (beforeL.drop (z.toNat+1)))):=iK.ixa (elem:=3) (len:=13) (by kernel_rfl) (by kernel_rfl) rfl h
def akA{a b:ByteArray}{q:Bool}(h:some (Bd a.data.toList b.data.toList)=some q)(x y:Operand):N3 P .eql 9 x y (.sc (.string a)) (.sc (.string b))=some (.sc (.bool q)):=by
 rw[<- Uy];cases h
 kernel_rfl
def akB{a b:Int}{q:Bool}(h:some (Cy b a)=some q)(x y:Operand):N3 P .gtr 3 x y (.sc (.int .i64 a)) (.sc (.int .i64 b))=some (.sc (.bool q)):=by
 rw[<- Uy];cases h
 kernel_rfl
def bbI{a b:Int}{q:Bool}(h:some (My a b)=some q)(x y:Operand):N3 P .leq 3 x y (.sc (.int .i64 a)) (.sc (.int .i64 b))=some (.sc (.bool q)):=by
 rw[<- Uy];cases h
 kernel_rfl
def ES:ByteArray:=⟨#[33,61]⟩
def Ni:ByteArray:=⟨#[40]⟩
def NB:ByteArray:=⟨#[41]⟩
def Oz:ByteArray:=⟨#[42]⟩
def Mc:ByteArray:=⟨#[43]⟩
def KG:ByteArray:=⟨#[44]⟩
def J5:ByteArray:=⟨#[45]⟩
def avF:ByteArray:=⟨#[46]⟩
def DP:ByteArray:=⟨#[47]⟩
def adV:ByteArray:=⟨#[47,47]⟩
def Va:ByteArray:=⟨#[58]⟩
def Jv:ByteArray:=⟨#[59]⟩
def ID:ByteArray:=⟨#[60]⟩
def EE:ByteArray:=⟨#[60,61]⟩
def Ec:ByteArray:=⟨#[61,61]⟩
def Md:ByteArray:=⟨#[62]⟩
def IT:ByteArray:=⟨#[62,61]⟩
def aS:ByteArray:=⟨#[97]⟩
def OA:ByteArray:=⟨#[97,32,60,32,98,32,60,32,99]⟩
def FO:ByteArray:=⟨#[97,32,62,32,51,32,97,110,100,32,110,111,116,32,98,32,61,61,32,99]⟩
def EK:ByteArray:=⟨#[97,109,111,117,110,116]⟩
def MI:ByteArray:=⟨#[97,110,100]⟩
def QO:ByteArray:=⟨#[97,114,116]⟩
def Cp:ByteArray:=⟨#[97,114,116,105,99,108,101]⟩
def bC:ByteArray:=⟨#[97,116]⟩
def bS:ByteArray:=⟨#[98]⟩
def cS:ByteArray:=⟨#[99]⟩
def PV:ByteArray:=⟨#[100,97,121]⟩
def Kb:ByteArray:=⟨#[100,101,100,117,99,116]⟩
def Q6:ByteArray:=⟨#[101,97,114,110]⟩
def Ic:ByteArray:=⟨#[102,97,99,116]⟩
def ET:ByteArray:=⟨#[102,97,99,116,32,114,97,116,101,32,58,32,69,85,82,32,108,105,110,101,32,120]⟩
def Lg:ByteArray:=⟨#[102,97,108,115,101]⟩
def MJ:ByteArray:=⟨#[102,108,111,111,114]⟩
def lU:ByteArray:=⟨#[102,111,114]⟩
def Z4:ByteArray:=⟨#[102,114,111,109]⟩
def Dm:ByteArray:=⟨#[103,114,101,97,116,101,115,116]⟩
def Fl:ByteArray:=⟨#[104,111,117,114,115,32,97,116,32,114,97,116,101,32,43,32,97,114,116,32,51]⟩
def Q9:ByteArray:=⟨#[105,110,102,111]⟩
def P5:ByteArray:=⟨#[107,110,111,119,110]⟩
def GZ:ByteArray:=⟨#[108,101,97,115,116]⟩
def GA:ByteArray:=⟨#[108,105,110,101]⟩
def At:ByteArray:=⟨#[108,105,110,101,32,112,97,121,32,58,32,69,85,82,32,101,97,114,110,59,32,97,114,116,105,99,108,101,32,51,32,102,111,114,32,112,97,121,32,114,97,110,107,32,49,32,102,114,111,109,32,50,48,50,52,45,48,49,45,48,49,32,107,110,111,119,110,32,50,48,50,52,45,48,49,45,48,49,32,123,32,97,109,111,117,110,116,32,69,85,82,32,49,46,53,48,59,32,125]⟩
def sM:ByteArray:=⟨#[109,105,110]⟩
def Dx:ByteArray:=⟨#[109,105,110,117,116,101,115]⟩
def Hr:ByteArray:=⟨#[109,111,110,116,104]⟩
def Th:ByteArray:=⟨#[110,111,116]⟩
def BH:ByteArray:=⟨#[110,117,109,98,101,114]⟩
def aH:ByteArray:=⟨#[111,114]⟩
def aJ:ByteArray:=⟨#[114,97,110,107]⟩
def G5:ByteArray:=⟨#[116,97,98,108,101]⟩
def Bt:ByteArray:=⟨#[116,97,98,108,101,40,120,59,32,48,32,58,32,48,46,48,48,32,43,32,49,47,49,48,44,32,53,48,48,46,48,48,32,58,32,53,48,46,48,48,32,43,32,49,47,52,41]⟩
def toS:ByteArray:=⟨#[116,111]⟩
def Pe:ByteArray:=⟨#[116,114,117,101]⟩
def DS:ByteArray:=⟨#[116,114,117,116,104]⟩
def FV:ByteArray:=⟨#[117,110,108,101,115,115]⟩
def Ei:ByteArray:=⟨#[119,101,101,107,100,97,121]⟩
def Nb:ByteArray:=⟨#[119,104,101,110]⟩
def KP:ByteArray:=⟨#[121,101,97,114]⟩
def bJ:ByteArray:=⟨#[123]⟩
def Vb:ByteArray:=⟨#[125]⟩
end Mo
end Go.Proofs.YtpbkhogolfegfaaGreatDoor
namespace Go.Proofs.YtpbkhogolfegfaaGreatDoor
open AI Go
namespace Mo
set_option maxRecDepth 100000
set_option maxHeartbeats 4000000
def aQM(x:Pc):Prop:=(-9223372036854775808<=x.fr/\x.fr<=9223372036854775807)/\(-9223372036854775808<=x.AO/\x.AO<=9223372036854775807)/\(-9223372036854775808<=x.Fs/\x.Fs<=9223372036854775807)
def yE(x:Fn):Prop:=x.ps.length<=9223372036854775807/\(∀y∈x.ps,aQM y)
mutual
def IS:Nd->Prop
 |⟨kind,name,unit,n,fr,to,known,CW,kids,AO⟩=>yE CW/\kids.length<=9223372036854775807/\yF kids
def yF:List Nd->Prop
 |[]=>True
 |k::ks=>IS k/\yF ks
end
def oH{l:List Nd}:yF l↔∀k∈l,IS k:=by induction l with|nil=>simp[yF]|cons k l ih=>simp[yF,ih]
def Qc(x:Nd):IS x↔yE x.CW/\x.kids.length<=9223372036854775807/\∀y∈x.kids,IS y:=by cases x;rw[IS,oH]
end Mo
end Go.Proofs.YtpbkhogolfegfaaGreatDoor
