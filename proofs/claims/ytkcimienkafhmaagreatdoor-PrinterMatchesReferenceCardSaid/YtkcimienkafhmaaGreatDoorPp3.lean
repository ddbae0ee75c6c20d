/- Part of a proof: see the last text. -/
import Derived.Test.YtkcimienkafhmaaGreatDoorPp2
import Derived.Lib.IndexBytes
import Derived.Deep.LoopGhost
import Derived.RangeFuncNested
import Derived.RangeFuncBound
import Derived.RangeFuncCalls
import Derived.RangeFuncLeaves
import Derived.RangeFuncBox
import Derived.Shelf.Abstract
import Derived.Shelf.RegionOpen
import Derived.OwnWalkIn
import Derived.TacticsInMore
import Derived.LoopNIn
import Derived.LoopIn
import Derived.Maps.AppendAt
import Derived.Shelf.Strings.Builder1
import Derived.Shelf.Strings.Builder2
import Derived.Shelf.Strconv.Atoi
import Derived.Shelf.Strconv.Itoa0
import Derived.Shelf.Strconv.Itoa1
import Derived.Shelf.LaysM
import Derived.Shelf.Strconv.Itoa2
import Derived.Shelf.Strconv.Itoa3
import Derived.Shelf.Strconv.AtoiErrFast
import Derived.Shelf.Strconv.ParseIntEmpty
import Derived.Shelf.Strconv.AtoiFail
import Derived.Shelf.Strconv.Clone
import Derived.Shelf.Strconv.SyntaxError
import Derived.Shelf.LaysC
import Derived.Shelf.Strconv.ToError
import Derived.Shelf.Strconv.Lower
import Derived.Shelf.Strconv.ParseUint10
import Derived.Shelf.Strconv.ParseUint10Empty
import Derived.Shelf.Strconv.ParseUint10Any
import Derived.Shelf.Strconv.ParseInt10
import Derived.Shelf.Strconv.AtoiLong
import Derived.Shelf.Strconv.AtoiInnerAll
import Derived.Shelf.Strconv.RangeError
import Derived.Shelf.Strconv.ToErrorRange
import Derived.Shelf.Strconv.AtoiAll
import Derived.Shelf.Strings.Search1
import Derived.Shelf.Strings.Search2
import Derived.Shelf.Strings.Search3
import Derived.Shelf.Strings.Count
import Derived.Shelf.Strings.Shaped
import Derived.Shelf.Strings.Split
import Derived.Shelf.Strings.Replace
import Derived.Shelf.Unicode.DecodeSlow
set_option linter.all false
noncomputable section
open Array renaming replicate_succ->bhC,replicate_zero->bhD
open Bool renaming false_eq_true->bbC
open Go.Boxed renaming new->bjG
open Go.ByteArray renaming toList_eq->bhI
open Go.Ending renaming returned->bgB
open Go.Exit renaming noGoto_ret->bkU
open Go.Fence renaming wide->bjW
open Go.Instr renaming index->bcT
open Go.IntKind renaming i64->beR
open Go.KeepsOthers renaming setCell->beN
open Go.Lib renaming extract_data->biF,hid->aUT,pow10Tab->bfS
open Go.OwnFrom renaming and->bhE
open Go.Shelf renaming Ren->bkE
open Go.World renaming ownsRow_nil->bhV,size_alloc->bdA
open Int renaming eq_ofNat_of_zero_le->bcD,toNat_natCast->aUW
open List renaming all_eq_true->bcC,append_toArray->bhJ,cons_append->bcP,drop_drop->bbO,isPrefixOf->bgA,isPrefixOf_iff_prefix->bdB,length_append->cZ,length_cons->amN,length_nil->amO,nil_append->bcY,push_toArray->bhU,size_toArray->bcW
open Nat renaming add_assoc->bdW,beq->bcA,le_refl->aHT,reduceAdd->bjN,reduceSub->bjO
open UInt8 renaming ofNat->bgG,toNat_inj->bfY
namespace Go.Proofs.YtkcimienkafhmaaGreatDoor
open Go.RowKit LexS
def Ru{a b:Bool}(h:a=b):bgB (.bool a)=.returned (.bool b):=by rw[h]
def adJ{k:IntKind}{a b:Int}(h:a=b):bgB (.int k a)=.returned (.int k b):=by rw[h]
def NY(s:ByteArray)(k:Nat):L (s.extract k s.size)=(L s).drop k:=Lib.extract_to_end s k
def abA:L { data:=#[47,47] }=[47,47]:=rfl
set_option maxHeartbeats 400000 in
def Ih(a b:ByteArray)(w:World) :
   Calls Tryz.prog 152 #[.string a,.string b] w λe w'=>e=.returned (.bool ((L b).isPrefixOf (L a)))/\w=w':=by
 by_cases h:b.size<=a.size
 ·go_enter Tryz.func152,Tryz.ntmps152
  go_wp2
  go_ret
  refine⟨Ru (a:=((a.extract 0 b.size).toList == b.toList)) ?_,rfl⟩;rw[bhI,bhI,biF,NC];simp
 ·go_enter Tryz.func152,Tryz.ntmps152
  go_wp2
  go_ret
  refine⟨Ru (a:=false) ?_,rfl⟩;symm;rw[Bool.eq_false_iff];intro h2;have:=(bdB.1 h2).length_le;simp at this;omega
set_option maxHeartbeats 1000000 in
def uS(s:ByteArray)(a:Int)(w:World)(hs:s.size<=9223372036854775806)(hT:N7 w)(h0:0<=a)(ha:a<=s.size) :
   Calls Tryz.prog 121 #[.string s,.int .i64 a] w λe w'=>e=.returned (.int .i64 (a+IH ((L s).drop a.toNat):Int))/\w=w':=by
 obtain⟨k0,rfl⟩:=bcD h0;rw[aUW];have hk0:k0<=s.size:=by omega
 clear ha
 go_enter Tryz.func121,Tryz.ntmps121
 go_wp2_with fail
 go_step3
 go_wp2_with fail
 go_step3
 go_wp2_with fail
 go_loopg [1] (s.size - k0) (λg i wx=>∃k:Nat,w=wx/\k<=s.size/\g=s.size - k/\Hid (k+IH ((L s).drop k)=k0+IH ((L s).drop k0))/\i=.int .i64 k)
 case atStart=>exact⟨k0,rfl,hk0,rfl,aUT rfl,rfl⟩
 case round=>
  obtain⟨k,rfl,hk,rfl,HK,rfl⟩:=hrel
  have hk1:k+Bb 1 ((L s).drop k)<=s.size:=by have:=MU 1 ((L s).drop k);simp at this;omega
  obtain⟨k1,hk1e⟩:∃k1,k1=k+Bb 1 ((L s).drop k):=⟨_,rfl⟩
  have HK1:Hid (k1+IH ((L s).drop k1)=k0+IH ((L s).drop k0)):=by refine aUT ?_;have h1:=HK.out;have h2:=agB ((L s).drop k);rw[bbO] at h2;unfold IH at h1 ⊢;rw[hk1e];omega
  have hn1:I7 1 ((L s).drop k1)=false:=by have:=ahT 1 ((L s).drop k);rw[bbO] at this;rw[hk1e];exact this
  have HN1:=aUT hn1;clear hn1;have hk1':k1<=s.size:=by omega
  have hkk:k<=k1:=by omega
  have HE:=aUT hk1e;clear hk1e hk1
  go_wp2_with fail
  refine(Sn s _ 1 _ (by omega) hT (by omega) rfl).mono ?_;rintro e w' ⟨rfl,rfl⟩;rw[aUW];rw[show((k:Int)+(Bb 1 ((L s).drop k):Int))=(k1:Int) from by rw[HE.out];omega];clear HE;cases hp:[47,47].isPrefixOf ((L s).drop k1) with
  |false=>
   have HP:=aUT hp;clear hp
   go_wp2_with fail
   refine(Ih _ _ _).mono ?_;rintro e w' ⟨rfl,rfl⟩;rw[NY,abA,HP.out]
   go_wp2_with fail
   rw[bkU]
   go_ret
   refine⟨adJ (a:=(k1:Int)) ?_,rfl⟩;have h1:=HK1.out;have h2:=rI _ HN1.out HP.out;unfold IH at h1 ⊢;omega
  |true=>
   have HP:=aUT hp;clear hp
   go_wp2_with fail
   refine(Ih _ _ _).mono ?_;rintro e w' ⟨rfl,rfl⟩;rw[NY,abA,HP.out]
   have hlen:k1+2<=s.size:=by have:=(bdB.1 HP.out).length_le;simp at this;omega
   have HC:Hid (k1+JA true ((L s).drop k1)=k0+IH ((L s).drop k0)):=by refine aUT ?_;have h1:=HK1.out;have h2:=Y4 _ HP.out;unfold IH at h1 ⊢;omega
   have hne:Hid (s[k1]≠10):=by refine aUT ?_;have h1:=HP.out;rw[RW s k1 (by omega)] at h1;simp[bgA] at h1;rw[<- h1.1];decide
   clear HK1 HN1 HP
   go_wp2_with fail
   go_loopg [1] (s.size - k1) (λg i wx=>∃j:Nat,w=wx/\k1<=j/\j<=s.size/\g=s.size - j/\Hid (j=k1\/k1 < j)/\Hid (j+JA true ((L s).drop j)=k0+IH ((L s).drop k0))/\i=.int .i64 j)
   case atStart=>exact⟨k1,rfl,aHT _,by omega,rfl,aUT (.inl rfl),HC,rfl⟩
   case round=>
    obtain⟨j,rfl,hj1,hj2,rfl,HJ,HR,rfl⟩:=hrel;by_cases hlt:j < s.size
    ·by_cases hnl:s[j]=10
     ·have hb:((s[j].toNat:Int) == 10)=true:=by rw[hnl];rfl
      have hjk:k1 < j:=by
       rcases HJ.out with h | h
       ·subst h;exact absurd hnl hne.out
       ·exact h
      have HNL:=aUT hnl;clear hnl
      go_wp2_with fail
      go_roundg (s.size - j)
      case measure=>omega
      case rel=>
       refine⟨j,rfl,by omega,rfl,aUT ?_,rfl⟩;have h1:=HR.out;rw[RW s j hlt,HNL.out,rH,<- HNL.out,<- RW s j hlt] at h1;exact h1
     ·have hb:((s[j].toNat:Int) == 10)=false:=by
       rw[beq_eq_false_iff_ne];intro h;apply hnl;exact bfY.1 (by have:(10:UInt8).toNat=10:=rfl;omega)
      have HNL:=aUT hnl;clear hnl
      go_wp2_with fail
      go_roundg (s.size - (j+1))
      case measure=>omega
      case rel=>
       refine⟨j+1,rfl,by omega,by omega,rfl,aUT (.inr (by omega)),aUT ?_,by go_num⟩;have h1:=HR.out;rw[RW s j hlt,alS _ _ HNL.out] at h1;omega
    ·have hge:s.size<=j:=by omega
     go_wp2_with fail
     rw[bkU]
     go_ret
     refine⟨adJ (a:=(j:Int)) ?_,rfl⟩;have h1:=HR.out;rw[cI s j hge] at h1;simp only[JA] at h1;omega
def SE:L { data:=#[46] }=[46]:=rfl
def abI{c d:UInt8}(h:c=d):((c.toNat:Int) == (d.toNat:Int))=true:=by rw[h];simp
def auU{c d:UInt8}(h:c≠d):((c.toNat:Int) == (d.toNat:Int))=false:=by rw[beq_eq_false_iff_ne];intro e;exact h (bfY.1 (by omega))
def akA{c d:UInt8}(h:c≠d):((c.toNat:Int) != (d.toNat:Int))=true:=by rw[bne_iff_ne];intro e;exact h (bfY.1 (by omega))
def ajZ{c d:UInt8}(h:c=d):((c.toNat:Int) != (d.toNat:Int))=false:=by rw[h];simp
def aGE(s:ByteArray)(k i:Nat)(h:k+i < s.size):((L s).drop k)[i]?=some (s[k+i]):=by rw[List.getElem?_drop,List.getElem?_eq_getElem (by simpa using h)];rfl
def rS(s:ByteArray)(k:Nat)(h:k < s.size):((L s).drop k).head?=some (s[k]):=by rw[RW s k h];rfl
def M7(s:ByteArray)(k:Nat):((L s).drop k).length=s.size - k:=by simp
def akQ(t:List UInt8)(hl:10<=t.length)(h:∀j,j < 10->Hy t j=true):Gb t=true:=by unfold Gb;simp only[hl,decide_true,Bool.true_and,bcC,List.mem_range];exact h
def abL(t:List UInt8)(i:Nat)(hi:i < 10)(h:Hy t i=false):Gb t=false:=by unfold Gb;rw[Bool.and_eq_false_iff];right;rw[List.all_eq_false];exact⟨i,by simpa using hi,by simp[h]⟩
set_option maxHeartbeats 1000000 in
def yF(s:ByteArray)(a:Int)(w:World)(hs:s.size<=6000)(hT:N7 w)(h0:0<=a)(ha:a<=s.size) :
   Calls Tryz.prog 170 #[.string s,.int .i64 a] w λe w'=>e=.returned (.bool (Gb ((L s).drop a.toNat)))/\w=w':=by
 obtain⟨k,rfl⟩:=bcD h0;rw[aUW];by_cases hl:s.size < k+10
 ·go_enter Tryz.func170,Tryz.ntmps170
  go_wp2_with fail
  go_ret
  refine⟨Ru (a:=false) ?_,rfl⟩;unfold Gb;rw[M7];simp;omega
 ·have hl10:k+10<=s.size:=by omega
  clear hl
  go_enter Tryz.func170,Tryz.ntmps170
  go_wp2_with fail
  go_loopg [11] 10 (λg x wx=>∃i:Nat,w=wx/\i<=10/\g=10 - i/\Hid (∀j,j < i->Hy ((L s).drop k) j=true)/\x=.int .i64 i)
  case atStart=>exact⟨0,rfl,by omega,rfl,aUT (by omega),rfl⟩
  case round=>
   obtain⟨i,rfl,hi,rfl,HI,rfl⟩:=hrel;by_cases hi10:i < 10
   ·by_cases h47:i=4\/i=7
    ·have hd:Hid (Hy ((L s).drop k) i=(some s[k+i] == some 45)):=by
      refine aUT ?_;unfold Hy;rw[if_pos h47,aGE s k i (by omega)]
     have hsel:((i:Int) == 4)=true\/(((i:Int) == 4)=false/\((i:Int) == 7)=true):=by
      rcases h47 with rfl | rfl
      ·left;rfl
      ·right;exact⟨rfl,rfl⟩
     clear h47;by_cases hm:s[k+i]=45
     ·have hb:((s[k+i].toNat:Int) != 45)=false:=ajZ hm
      have HM:=aUT hm;clear hm;rcases hsel with h4 | ⟨h4,h7⟩
      all_goals
        go_wp2_with fail
        go_roundg (10 - (i+1))
        case measure=>omega
        case rel=>
         refine⟨i+1,rfl,by omega,rfl,aUT ?_,by go_num⟩;intro j hj;by_cases hji:j=i
         ·subst hji;rw[hd.out,HM.out];rfl
         ·exact HI.out j (by omega)
     ·have hb:((s[k+i].toNat:Int) != 45)=true:=akA hm
      have HM:=aUT hm;clear hm;rcases hsel with h4 | ⟨h4,h7⟩
      all_goals
        go_wp2_with fail
        go_ret
        refine⟨Ru (a:=false) ?_,rfl⟩;symm;refine abL _ i hi10 ?_;rw[hd.out];simpa using HM.out
    ·have hd:Hid (Hy ((L s).drop k) i=I7 8 ((L s).drop (k+i))):=by
      refine aUT ?_;unfold Hy;rw[if_neg h47,bbO]
     have h4:((i:Int) == 4)=false:=by rw[beq_eq_false_iff_ne];omega
     have h7:((i:Int) == 7)=false:=by rw[beq_eq_false_iff_ne];omega
     clear h47;cases hb:I7 8 ((L s).drop (k+i)) with
     |true=>
      have HB:=aUT hb;clear hb
      go_wp2_with fail
      refine(Jk s _ 8 _ hT (by omega) rfl).mono ?_;rintro e w' ⟨rfl,rfl⟩;rw[show((k:Int)+(i:Int)).toNat=k+i from by omega,HB.out]
      go_wp2_with fail
      go_roundg (10 - (i+1))
      case measure=>omega
      case rel=>
       refine⟨i+1,rfl,by omega,rfl,aUT ?_,by go_num⟩;intro j hj;by_cases hji:j=i
       ·subst hji;rw[hd.out,HB.out]
       ·exact HI.out j (by omega)
     |false=>
      have HB:=aUT hb;clear hb
      go_wp2_with fail
      refine(Jk s _ 8 _ hT (by omega) rfl).mono ?_;rintro e w' ⟨rfl,rfl⟩;rw[show((k:Int)+(i:Int)).toNat=k+i from by omega,HB.out]
      go_wp2_with fail
      go_ret
      refine⟨Ru (a:=false) ?_,rfl⟩;symm;refine abL _ i hi10 ?_;rw[hd.out,HB.out]
   ·have hge:10<=i:=by omega
    go_wp2_with fail
    go_ret
    refine⟨Ru (a:=true) ?_,rfl⟩;symm;refine akQ _ (by rw[M7];omega) ?_;intro j hj;exact HI.out j (by omega)
def UP(k:Nat)(r:Nat×Nat):Value:=if r.1=0 then .tuple #[.int .i64 0,.int .i64 0] else .tuple #[.int .i64 r.1,.int .i64 ((k+r.2:Nat):Int)]
def E3{k:Nat}{r:Nat×Nat}{v:Value}(h:v=UP k r):bgB v=.returned (UP k r):=by rw[h]
def aJK(m:Nat)(s:ByteArray)(k:Nat)(h:I7 m ((L s).drop k)=true):k < s.size:=(uO m s k h).2
def nD(t:List UInt8)(h1:I7 30 t=false)(h2:[46].isPrefixOf t=false):free t=true:=by
 unfold free;cases t with
 |nil=>rfl
 |cons c t=>
  simp only[h1,Bool.false_or,List.head?_cons];have:¬(46=c):=by simpa[bgA] using h2
  simp[Ne.symm this]
def Ym(t:List UInt8)(h1:I7 30 t=true):free t=false:=by unfold free;simp[h1]
def Yn(t:List UInt8)(h2:[46].isPrefixOf t=true):free t=false:=by unfold free;obtain⟨u,rfl⟩:=bdB.1 h2;simp
def qX(t:List UInt8):[46].isPrefixOf t=true↔t.head?=some 46:=by cases t with|nil=>simp|cons c t=>simp[bgA];exact eq_comm
set_option maxHeartbeats 2000000 in
def rA(s:ByteArray)(a:Int)(w:World)(hs:s.size<=6000)(hT:N7 w)(h0:0<=a)(ha:a < s.size) :
   Calls Tryz.prog 154 #[.string s,.int .i64 a] w λe w'=>e=.returned (UP a.toNat (IS ((L s).drop a.toNat)))/\w=w':=by
 obtain⟨k,rfl⟩:=bcD h0;rw[aUW];have hk:k < s.size:=by omega
 clear ha;obtain⟨d,hd⟩:∃d,d=Bb 8 ((L s).drop k):=⟨_,rfl⟩;have hdl:k+d<=s.size:=by rw[hd];have:=MU 8 ((L s).drop k);rw[M7] at this;omega
 have HD:=aUT hd;clear hd
 go_enter Tryz.func154,Tryz.ntmps154
 go_wp2_with fail
 refine(Sn s _ 8 _ (by omega) hT (by omega) rfl).mono ?_;rintro e w' ⟨rfl,rfl⟩;rw[aUW,<- HD.out]
 go_wp2_with fail
 refine(yF s _ _ hs hT (by omega) (by omega)).mono ?_;rintro e w' ⟨rfl,rfl⟩;rw[aUW];cases hdt:Gb ((L s).drop k) with
 |true=>
  have hl10:k+10<=s.size:=by have:=hdt;unfold Gb at this;rw[M7] at this;simp at this;omega
  have HF:Hid (IS ((L s).drop k)=if free ((L s).drop (k+10)) then (5,10) else (0,0)):=by refine aUT ?_;unfold IS;simp only[hdt,if_true,bbO]
  clear hdt
  go_wp2_with fail
  cases hw:I7 30 ((L s).drop (k+10)) with
  |true=>
   have HW:=aUT hw;clear hw;refine(Jk s _ 30 _ hT (by omega) rfl).mono ?_;rintro e w' ⟨rfl,rfl⟩;rw[show((k:Int)+10).toNat=k+10 from by omega,HW.out]
   go_wp2_with fail
   go_ret2
   refine⟨E3 ?_,rfl⟩;rw[HF.out,Ym _ HW.out];rfl
  |false=>
   have HW:=aUT hw;clear hw;refine(Jk s _ 30 _ hT (by omega) rfl).mono ?_;rintro e w' ⟨rfl,rfl⟩;rw[show((k:Int)+10).toNat=k+10 from by omega,HW.out];cases hp:[46].isPrefixOf ((L s).drop (k+10)) with
   |true=>
    have HP:=aUT hp;clear hp
    go_wp2_with fail
    refine(Ih _ _ _).mono ?_;rintro e w' ⟨rfl,rfl⟩;rw[NY,SE,HP.out]
    go_wp2_with fail
    go_ret2
    refine⟨E3 ?_,rfl⟩;rw[HF.out,Yn _ HP.out];rfl
   |false=>
    have HP:=aUT hp;clear hp
    go_wp2_with fail
    refine(Ih _ _ _).mono ?_;rintro e w' ⟨rfl,rfl⟩;rw[NY,SE,HP.out]
    go_wp2_with fail
    go_ret2
    refine⟨E3 ?_,rfl⟩;rw[HF.out,nD _ HW.out HP.out];simp[UP]
    try omega
 |false=>
  have HDT:=aUT hdt;clear hdt;by_cases hz:s[k]=48/\1 < d
  ·obtain⟨hz0,hd1⟩:=hz
   have hb:((s[k].toNat:Int) == 48)=true:=abI hz0
   have HF:Hid (IS ((L s).drop k)=(0,0)):=by refine aUT ?_;unfold IS;simp only[HDT.out,bbC,if_false,<- HD.out,rS s k hk,hz0,hd1,and_self,if_true]
   clear hz0
   go_wp2_with fail
   go_ret2
   refine⟨E3 ?_,rfl⟩;rw[HF.out];rfl
  ·have hbb:((s[k].toNat:Int) == 48)=false\/(((s[k].toNat:Int) == 48)=true/\d<=1):=by
    by_cases h48:s[k]=48
    ·right;exact⟨abI h48,by have:¬1 < d:=λh=>hz ⟨h48,h⟩;omega⟩
    ·left;exact auU h48
   have HZ:Hid (¬(((L s).drop k).head?=some 48/\1 < d)):=by refine aUT ?_;rw[rS s k hk];rintro⟨h1,h2⟩;exact hz ⟨by simpa using h1,h2⟩
   clear hz;cases hp:[46].isPrefixOf ((L s).drop (k+d)) with
   |true=>
    have HP:=aUT hp;clear hp;have HP':Hid ((((L s).drop k).drop d).head?=some 46):=aUT (by rw[bbO];exact(qX _).1 HP.out);by_cases hd10:10 < d
    ·have HF:Hid (IS ((L s).drop k)=(0,0)):=by
      refine aUT ?_;unfold IS;simp only[HDT.out,bbC,if_false,<- HD.out];rw[if_neg HZ.out,if_pos HP'.out,if_pos (.inl hd10)]
     have hb:=hbb.resolve_right (by omega);clear hbb
     go_wp2_with fail
     refine(Ih _ _ _).mono ?_;rintro e w' ⟨rfl,rfl⟩;rw[NY,SE,HP.out]
     go_wp2_with fail
     go_ret2
     refine⟨E3 ?_,rfl⟩;rw[HF.out];rfl
    ·cases h1:I7 8 ((L s).drop (k+d+1)) with
     |false=>
      have HF:Hid (IS ((L s).drop k)=(0,0)):=by refine aUT ?_;unfold IS;simp only[HDT.out,bbC,if_false,<- HD.out];rw[if_neg HZ.out,if_pos HP'.out,if_pos (.inr (.inl (by rw[bbO,<- bdW];exact h1)))]
      have H1:=aUT h1;clear h1;rcases hbb with hb | ⟨hb,hd1⟩
      all_goals
        go_wp2_with fail
        refine(Ih _ _ _).mono ?_;rintro e w' ⟨rfl,rfl⟩;rw[NY,SE,HP.out]
        go_wp2_with fail
        refine(Jk s _ 8 _ hT (by omega) rfl).mono ?_;rintro e w' ⟨rfl,rfl⟩;rw[show((k:Int)+(d:Int)+1).toNat=k+d+1 from by omega,H1.out]
        go_wp2_with fail
        go_ret2
        refine⟨E3 ?_,rfl⟩;rw[HF.out];rfl
     |true=>
      have H1:=aUT h1;clear h1;cases h2:I7 8 ((L s).drop (k+d+2)) with
      |false=>
       have HF:Hid (IS ((L s).drop k)=(0,0)):=by refine aUT ?_;unfold IS;simp only[HDT.out,bbC,if_false,<- HD.out];rw[if_neg HZ.out,if_pos HP'.out,if_pos (.inr (.inr (by rw[bbO,<- bdW];exact h2)))]
       have H2:=aUT h2;clear h2;rcases hbb with hb | ⟨hb,hd1⟩
       all_goals
         go_wp2_with fail
         refine(Ih _ _ _).mono ?_;rintro e w' ⟨rfl,rfl⟩;rw[NY,SE,HP.out]
         go_wp2_with fail
         refine(Jk s _ 8 _ hT (by omega) rfl).mono ?_;rintro e w' ⟨rfl,rfl⟩;rw[show((k:Int)+(d:Int)+1).toNat=k+d+1 from by omega,H1.out]
         go_wp2_with fail
         refine(Jk s _ 8 _ hT (by omega) rfl).mono ?_;rintro e w' ⟨rfl,rfl⟩;rw[show((k:Int)+(d:Int)+2).toNat=k+d+2 from by omega,H2.out]
         go_wp2_with fail
         go_ret2
         refine⟨E3 ?_,rfl⟩;rw[HF.out];rfl
      |true=>
       have hsz:k+d+2 < s.size:=aJK 8 s _ h2
       have HF:Hid (IS ((L s).drop k)=if free ((L s).drop (k+d+3)) then (4,d+3) else (0,0)):=by
        refine aUT ?_;unfold IS;simp only[HDT.out,bbC,if_false,<- HD.out]
        rw[if_neg HZ.out,if_pos HP'.out,if_neg (by
         rintro(h | h | h)
         ·omega
         ·rw[bbO,<- bdW] at h;rw[h] at H1;exact absurd H1.out (by simp)
         ·rw[bbO,<- bdW] at h;rw[h] at h2;exact absurd h2 (by simp))]
        rw[bbO,<- bdW]
       have H2:=aUT h2;clear h2;rcases hbb with hb | ⟨hb,hd1⟩
       all_goals
         go_wp2_with fail
         refine(Ih _ _ _).mono ?_;rintro e w' ⟨rfl,rfl⟩;rw[NY,SE,HP.out]
         go_wp2_with fail
         refine(Jk s _ 8 _ hT (by omega) rfl).mono ?_;rintro e w' ⟨rfl,rfl⟩;rw[show((k:Int)+(d:Int)+1).toNat=k+d+1 from by omega,H1.out]
         go_wp2_with fail
         refine(Jk s _ 8 _ hT (by omega) rfl).mono ?_;rintro e w' ⟨rfl,rfl⟩;rw[show((k:Int)+(d:Int)+2).toNat=k+d+2 from by omega,H2.out];clear HP
         go_wp2_with fail
         cases hw:I7 30 ((L s).drop (k+d+3)) with
         |true=>
          have HW:=aUT hw;clear hw;refine(Jk s _ 30 _ hT (by omega) rfl).mono ?_;rintro e w' ⟨rfl,rfl⟩;rw[show((k:Int)+(d:Int)+3).toNat=k+d+3 from by omega,HW.out]
          go_wp2_with fail
          go_ret2
          refine⟨E3 ?_,rfl⟩;rw[HF.out,Ym _ HW.out];rfl
         |false=>
          have HW:=aUT hw;clear hw;refine(Jk s _ 30 _ hT (by omega) rfl).mono ?_;rintro e w' ⟨rfl,rfl⟩;rw[show((k:Int)+(d:Int)+3).toNat=k+d+3 from by omega,HW.out];cases hp:[46].isPrefixOf ((L s).drop (k+d+3)) with
          |true=>
           have HP:=aUT hp;clear hp
           go_wp2_with fail
           refine(Ih _ _ _).mono ?_;rintro e w' ⟨rfl,rfl⟩;rw[NY,SE,HP.out]
           go_wp2_with fail
           go_ret2
           refine⟨E3 ?_,rfl⟩;rw[HF.out,Yn _ HP.out];rfl
          |false=>
           have HP:=aUT hp;clear hp
           go_wp2_with fail
           refine(Ih _ _ _).mono ?_;rintro e w' ⟨rfl,rfl⟩;rw[NY,SE,HP.out]
           go_wp2_with fail
           go_ret2
           refine⟨E3 ?_,rfl⟩;rw[HF.out,nD _ HW.out HP.out];simp[UP]
           try omega
   |false=>
    have HP:=aUT hp;clear hp;have HP':Hid (¬((((L s).drop k).drop d).head?=some 46)):=aUT (by rw[bbO,<- qX,HP.out];simp);by_cases hd12:12 < d
    ·have HF:Hid (IS ((L s).drop k)=(0,0)):=by
      refine aUT ?_;unfold IS;simp only[HDT.out,bbC,if_false,<- HD.out];rw[if_neg HZ.out,if_neg HP'.out,if_pos hd12]
     have hb:=hbb.resolve_right (by omega);clear hbb
     go_wp2_with fail
     refine(Ih _ _ _).mono ?_;rintro e w' ⟨rfl,rfl⟩;rw[NY,SE,HP.out]
     go_wp2_with fail
     go_ret2
     refine⟨E3 ?_,rfl⟩;rw[HF.out];rfl
    ·have HF:Hid (IS ((L s).drop k)=if free ((L s).drop (k+d)) then (3,d) else (0,0)):=by
      refine aUT ?_;unfold IS;simp only[HDT.out,bbC,if_false,<- HD.out];rw[if_neg HZ.out,if_neg HP'.out,if_neg hd12,bbO]
     rcases hbb with hb | ⟨hb,hd1⟩
     all_goals
       go_wp2_with fail
       refine(Ih _ _ _).mono ?_;rintro e w' ⟨rfl,rfl⟩;rw[NY,SE,HP.out];clear HP
       go_wp2_with fail
       cases hw:I7 30 ((L s).drop (k+d)) with
       |true=>
        have HW:=aUT hw;clear hw;refine(Jk s _ 30 _ hT (by omega) rfl).mono ?_;rintro e w' ⟨rfl,rfl⟩;rw[show((k:Int)+(d:Int)).toNat=k+d from by omega,HW.out]
        go_wp2_with fail
        go_ret2
        refine⟨E3 ?_,rfl⟩;rw[HF.out,Ym _ HW.out];rfl
       |false=>
        have HW:=aUT hw;clear hw;refine(Jk s _ 30 _ hT (by omega) rfl).mono ?_;rintro e w' ⟨rfl,rfl⟩;rw[show((k:Int)+(d:Int)).toNat=k+d from by omega,HW.out];cases hp:[46].isPrefixOf ((L s).drop (k+d)) with
        |true=>
         have HP:=aUT hp;clear hp
         go_wp2_with fail
         refine(Ih _ _ _).mono ?_;rintro e w' ⟨rfl,rfl⟩;rw[NY,SE,HP.out]
         go_wp2_with fail
         go_ret2
         refine⟨E3 ?_,rfl⟩;rw[HF.out,Yn _ HP.out];rfl
        |false=>
         have HP:=aUT hp;clear hp
         go_wp2_with fail
         refine(Ih _ _ _).mono ?_;rintro e w' ⟨rfl,rfl⟩;rw[NY,SE,HP.out]
         go_wp2_with fail
         go_ret2
         refine⟨E3 ?_,rfl⟩;rw[HF.out,nD _ HW.out HP.out];simp[UP]
         try omega
def azX(w:World):(bcT 143 (.agg II) (.int .i64 ((0:Nat):Int))).run Tryz.prog w=.ok (.string ⟨(F3.getD 0 []).toArray⟩) w:=by kernel_rfl
def azY(w:World):(bcT 143 (.agg II) (.int .i64 ((1:Nat):Int))).run Tryz.prog w=.ok (.string ⟨(F3.getD 1 []).toArray⟩) w:=by kernel_rfl
def azZ(w:World):(bcT 143 (.agg II) (.int .i64 ((2:Nat):Int))).run Tryz.prog w=.ok (.string ⟨(F3.getD 2 []).toArray⟩) w:=by kernel_rfl
def aAA(w:World):(bcT 143 (.agg II) (.int .i64 ((3:Nat):Int))).run Tryz.prog w=.ok (.string ⟨(F3.getD 3 []).toArray⟩) w:=by kernel_rfl
def aAB(w:World):(bcT 143 (.agg II) (.int .i64 ((4:Nat):Int))).run Tryz.prog w=.ok (.string ⟨(F3.getD 4 []).toArray⟩) w:=by kernel_rfl
def aAC(w:World):(bcT 143 (.agg II) (.int .i64 ((5:Nat):Int))).run Tryz.prog w=.ok (.string ⟨(F3.getD 5 []).toArray⟩) w:=by kernel_rfl
def aAD(w:World):(bcT 143 (.agg II) (.int .i64 ((6:Nat):Int))).run Tryz.prog w=.ok (.string ⟨(F3.getD 6 []).toArray⟩) w:=by kernel_rfl
def aAE(w:World):(bcT 143 (.agg II) (.int .i64 ((7:Nat):Int))).run Tryz.prog w=.ok (.string ⟨(F3.getD 7 []).toArray⟩) w:=by kernel_rfl
def aAF(w:World):(bcT 143 (.agg II) (.int .i64 ((8:Nat):Int))).run Tryz.prog w=.ok (.string ⟨(F3.getD 8 []).toArray⟩) w:=by kernel_rfl
def aAG(w:World):(bcT 143 (.agg II) (.int .i64 ((9:Nat):Int))).run Tryz.prog w=.ok (.string ⟨(F3.getD 9 []).toArray⟩) w:=by kernel_rfl
def asE(w:World):(bcT 143 (.agg II) (.int .i64 ((10:Nat):Int))).run Tryz.prog w=.ok (.string ⟨(F3.getD 10 []).toArray⟩) w:=by kernel_rfl
def asF(w:World):(bcT 143 (.agg II) (.int .i64 ((11:Nat):Int))).run Tryz.prog w=.ok (.string ⟨(F3.getD 11 []).toArray⟩) w:=by kernel_rfl
def asG(w:World):(bcT 143 (.agg II) (.int .i64 ((12:Nat):Int))).run Tryz.prog w=.ok (.string ⟨(F3.getD 12 []).toArray⟩) w:=by kernel_rfl
def asH(w:World):(bcT 143 (.agg II) (.int .i64 ((13:Nat):Int))).run Tryz.prog w=.ok (.string ⟨(F3.getD 13 []).toArray⟩) w:=by kernel_rfl
def asI(w:World):(bcT 143 (.agg II) (.int .i64 ((14:Nat):Int))).run Tryz.prog w=.ok (.string ⟨(F3.getD 14 []).toArray⟩) w:=by kernel_rfl
def asJ(w:World):(bcT 143 (.agg II) (.int .i64 ((15:Nat):Int))).run Tryz.prog w=.ok (.string ⟨(F3.getD 15 []).toArray⟩) w:=by kernel_rfl
def asK(w:World):(bcT 143 (.agg II) (.int .i64 ((16:Nat):Int))).run Tryz.prog w=.ok (.string ⟨(F3.getD 16 []).toArray⟩) w:=by kernel_rfl
def ahZ(i:Nat)(hi:i < 17)(w:World):(bcT 143 (.agg II) (.int .i64 (i:Int))).run Tryz.prog w=.ok (.string ⟨(F3.getD i []).toArray⟩) w:=by match i,hi with|0,_=>exact azX w|1,_=>exact azY w|2,_=>exact azZ w|3,_=>exact aAA w|4,_=>exact aAB w|5,_=>exact aAC w|6,_=>exact aAD w|7,_=>exact aAE w|8,_=>exact aAF w|9,_=>exact aAG w|10,_=>exact asE w|11,_=>exact asF w|12,_=>exact asG w|13,_=>exact asH w|14,_=>exact asI w|15,_=>exact asJ w|16,_=>exact asK w|n+17,h=>omega
def ahY(t:List UInt8)(i:Nat)(hi:i < 17):RB t (F3.drop i)=if (F3.getD i []).isPrefixOf t then (6,(F3.getD i []).length) else RB t (F3.drop (i+1)):=by
 have:F3.drop i=F3.getD i []::F3.drop (i+1):=by
  rw[List.drop_eq_getElem_cons (by simpa[F3] using hi)]
  simp[List.getD,show i < F3.length from by simpa[F3] using hi]
 rw[this,RB]
def aAH(i:Nat):(F3.getD i []).length<=2:=by
 by_cases h:i < 17
 ·have:∀j:Fin 17,(F3.getD j.val []).length<=2:=by decide
  exact this ⟨i,h⟩
 ·have:F3.length<=i:=by simp[F3];omega
  simp[List.getD,this]
set_option maxHeartbeats 2000000 in
def uB(s:ByteArray)(a:Int)(w:World)(hs:s.size<=6000)(hT:N7 w)(h0:0<=a)(ha:a < s.size) :
   Calls Tryz.prog 122 #[.string s,.int .i64 a] w λe w'=>e=.returned (UP a.toNat (Bi ((L s).drop a.toNat)))/\w=w':=by
 obtain⟨k,rfl⟩:=bcD h0;rw[aUW];have hk:k < s.size:=by omega
 clear ha;obtain⟨d,hd⟩:∃d,d=Bb 30 ((L s).drop k):=⟨_,rfl⟩;have hdl:k+d<=s.size:=by rw[hd];have:=MU 30 ((L s).drop k);rw[M7] at this;omega
 have HD:=aUT hd;clear hd
 go_enter Tryz.func122,Tryz.ntmps122
 go_wp2_with fail
 refine(Sn s _ 30 _ (by omega) hT (by omega) rfl).mono ?_;rintro e w' ⟨rfl,rfl⟩;rw[aUW,<- HD.out]
 go_wp2_with fail
 refine(Jk s _ 2 _ hT (by omega) rfl).mono ?_;rintro e w' ⟨rfl,rfl⟩;rw[aUW];cases h2:I7 2 ((L s).drop k) with
 |true=>
  have H2:=aUT h2;clear h2;by_cases hd16:d<=16
  ·obtain⟨d2,hd2⟩:∃d2,d2=Bb 26 ((L s).drop k):=⟨_,rfl⟩
   have HD2:=aUT hd2;clear hd2;by_cases he:d2=d
   ·have HF:Hid (Bi ((L s).drop k)=(1,d)):=by
     refine aUT ?_;unfold Bi;rw[H2.out,if_pos rfl,if_pos ⟨by rw[<- HD.out];exact hd16,by rw[<- HD.out,<- HD2.out];exact he⟩,<- HD.out]
    have hb:(((k:Int)+(d2:Int)) == ((k:Int)+(d:Int)))=true:=by rw[beq_iff_eq];omega
    clear he
    go_wp2_with fail
    refine(Sn s _ 26 _ (by omega) hT (by omega) rfl).mono ?_;rintro e w' ⟨rfl,rfl⟩;rw[aUW,<- HD2.out]
    go_wp2_with fail
    go_ret2
    refine⟨E3 ?_,rfl⟩;rw[HF.out];rfl
   ·have HF:Hid (Bi ((L s).drop k)=(0,0)):=by
     refine aUT ?_;unfold Bi;rw[H2.out,if_pos rfl,if_neg (by rw[<- HD.out,<- HD2.out];exact λh=>he h.2)]
    have hb:(((k:Int)+(d2:Int)) == ((k:Int)+(d:Int)))=false:=by rw[beq_eq_false_iff_ne];omega
    clear he
    go_wp2_with fail
    refine(Sn s _ 26 _ (by omega) hT (by omega) rfl).mono ?_;rintro e w' ⟨rfl,rfl⟩;rw[aUW,<- HD2.out]
    go_wp2_with fail
    go_ret2
    refine⟨E3 ?_,rfl⟩;rw[HF.out];rfl
  ·have HF:Hid (Bi ((L s).drop k)=(0,0)):=by
    refine aUT ?_;unfold Bi;rw[H2.out,if_pos rfl,if_neg (by rw[<- HD.out];exact λh=>hd16 h.1)]
   go_wp2_with fail
   go_ret2
   refine⟨E3 ?_,rfl⟩;rw[HF.out];rfl
 |false=>
  have H2:=aUT h2;clear h2
  go_wp2_with fail
  refine(Jk s _ 4 _ hT (by omega) rfl).mono ?_;rintro e w' ⟨rfl,rfl⟩;rw[aUW];cases h4:I7 4 ((L s).drop k) with
  |true=>
   have H4:=aUT h4;clear h4;by_cases hd3:d=3
   ·have hb3:(((k:Int)+(d:Int) - (k:Int)) == 3)=true:=by rw[beq_iff_eq];omega
    obtain⟨d2,hd2⟩:∃d2,d2=Bb 4 ((L s).drop k):=⟨_,rfl⟩;have HD2:=aUT hd2;clear hd2;have HD3:=aUT hd3;by_cases he:d2=d
    ·have HF:Hid (Bi ((L s).drop k)=(2,d)):=by
      refine aUT ?_;unfold Bi;rw[H2.out,H4.out,if_neg (by simp),if_pos rfl,if_pos ⟨by rw[<- HD.out];exact hd3,by rw[<- HD.out,<- HD2.out];exact he⟩,<- HD.out]
     have hb:(((k:Int)+(d2:Int)) == ((k:Int)+(d:Int)))=true:=by rw[beq_iff_eq];omega
     clear he hd3
     go_wp2_with fail
     refine(Sn s _ 4 _ (by omega) hT (by omega) rfl).mono ?_;rintro e w' ⟨rfl,rfl⟩;rw[aUW,<- HD2.out]
     go_wp2_with fail
     go_ret2
     refine⟨E3 ?_,rfl⟩;rw[HF.out];rfl
    ·have HF:Hid (Bi ((L s).drop k)=(0,0)):=by
      refine aUT ?_;unfold Bi;rw[H2.out,H4.out,if_neg (by simp),if_pos rfl,if_neg (by rw[<- HD.out,<- HD2.out];exact λh=>he h.2)]
     have hb:(((k:Int)+(d2:Int)) == ((k:Int)+(d:Int)))=false:=by rw[beq_eq_false_iff_ne];omega
     clear he hd3
     go_wp2_with fail
     refine(Sn s _ 4 _ (by omega) hT (by omega) rfl).mono ?_;rintro e w' ⟨rfl,rfl⟩;rw[aUW,<- HD2.out]
     go_wp2_with fail
     go_ret2
     refine⟨E3 ?_,rfl⟩;rw[HF.out];rfl
   ·have HF:Hid (Bi ((L s).drop k)=(0,0)):=by
     refine aUT ?_;unfold Bi;rw[H2.out,H4.out,if_neg (by simp),if_pos rfl,if_neg (by rw[<- HD.out];exact λh=>hd3 h.1)]
    have hb3:(((k:Int)+(d:Int) - (k:Int)) == 3)=false:=by rw[beq_eq_false_iff_ne];omega
    clear hd3
    go_wp2_with fail
    go_ret2
    refine⟨E3 ?_,rfl⟩;rw[HF.out];rfl
  |false=>
   have H4:=aUT h4;clear h4
   go_wp2_with fail
   refine(Jk s _ 8 _ hT (by omega) rfl).mono ?_;rintro e w' ⟨rfl,rfl⟩;rw[aUW];cases h8:I7 8 ((L s).drop k) with
   |true=>
    have HF:Hid (Bi ((L s).drop k)=IS ((L s).drop k)):=by refine aUT ?_;unfold Bi;rw[H2.out,H4.out,h8,if_neg (by simp),if_neg (by simp),if_pos rfl]
    clear h8
    go_wp2_with fail
    refine(rA s _ _ hs hT (by omega) (by omega)).mono ?_;rintro e w' ⟨rfl,rfl⟩;rw[aUW];by_cases hz:(IS ((L s).drop k)).1=0
    ·have HO:Hid (UP k (IS ((L s).drop k))=.tuple #[.int .i64 0,.int .i64 0]):=aUT (by unfold UP;rw[if_pos hz])
     clear hz;rw[HO.out]
     go_wp2_with fail
     go_ret2
     exact⟨by rw[HF.out,HO.out];rfl,rfl⟩
    ·obtain⟨q,n,HO⟩:∃q n:Int,Hid (UP k (IS ((L s).drop k))=.tuple #[.int .i64 q,.int .i64 n]):=⟨_,_,aUT (by unfold UP;rw[if_neg hz])⟩
     clear hz;rw[HO.out]
     go_wp2_with fail
     go_ret2
     exact⟨by rw[HF.out,HO.out];rfl,rfl⟩
   |false=>
    have HF:Hid (Bi ((L s).drop k)=RB ((L s).drop k) (F3.drop 0)):=by refine aUT ?_;unfold Bi;rw[H2.out,H4.out,h8,if_neg (by simp),if_neg (by simp),if_neg (by simp),List.drop_zero]
    clear h8;have hg1:=hT.2;have HG:=aUT hg1;clear hg1
    go_wp2_with (refine XQ rfl 143 _ rfl 1 rfl _ _ HG.out Tryz.underlying143 rfl (by kernel_rfl) ?_)
    go_loopg [8,54] 17 (λg _ x wx=>∃i:Nat,w=wx/\i<=17/\g=17 - i/\Hid (Bi ((L s).drop k)=RB ((L s).drop k) (F3.drop i))/\x=.int .i64 i)
    case atStart=>exact⟨0,rfl,by omega,rfl,HF,rfl⟩
    case round=>
     obtain⟨i,rfl,hi,rfl,HI,rfl⟩:=hrel;by_cases hi17:i < 17
     ·have hix:=ahZ i hi17
      have HS:=aUT (ahY ((L s).drop k) i hi17);have hsl:=aAH i;cases hp:(F3.getD i []).isPrefixOf ((L s).drop k) with
      |true=>
       have hlen:k+(F3.getD i []).length<=s.size:=by have:=(bdB.1 hp).length_le;rw[M7] at this;omega
       have HP:=aUT hp;clear hp;generalize hy:F3.getD i []=y at *;clear hy
       go_wp2_with fail
       refine(Ih _ _ _).mono ?_;rintro e w' ⟨rfl,rfl⟩;rw[NY];rw[show L (⟨y.toArray⟩:ByteArray)=y from by simp,HP.out];clear hix
       go_wp2_with fail
       go_ret2
       refine⟨E3 ?_,rfl⟩;rw[HI.out,HS.out,HP.out];simp[UP]
      |false=>
       have HP:=aUT hp;clear hp;generalize hy:F3.getD i []=y at *;clear hy
       go_wp2_with fail
       refine(Ih _ _ _).mono ?_;rintro e w' ⟨rfl,rfl⟩;rw[NY];rw[show L (⟨y.toArray⟩:ByteArray)=y from by simp,HP.out];clear hix
       go_wp2_with fail
       go_roundg (17 - (i+1))
       case measure=>omega
       case rel=>
        refine⟨i+1,rfl,by omega,rfl,aUT ?_,by go_num⟩;rw[HI.out,HS.out,HP.out];rfl
     ·have hge:17<=i:=by omega
      go_wp2_with fail
      go_ret2
      refine⟨E3 ?_,rfl⟩;rw[HI.out,List.drop_eq_nil_of_le (show F3.length<=i from hge)];rfl
end Go.Proofs.YtkcimienkafhmaaGreatDoor
namespace Go.Proofs.YtkcimienkafhmaaGreatDoor
open Go.RowKit Go.Shelf LexS
attribute [local go_sem] Oper.semAt_some
def asS(x:Tok):Value:=.agg #[.int .i64 x.1,.string ⟨x.2.1.toArray⟩,.int .i64 x.2.2]
def KpL(n₀ Bn:Nat)(W W':World):Prop:=Below n₀ W W'/\W'.heap[Bn]?=W.heap[Bn]?
def aQZ{n₀ Bn:Nat}{A B C:World}(h:KpL n₀ Bn A B)(k:KpL n₀ Bn B C):KpL n₀ Bn A C:=⟨h.1.trans k.1,k.2.trans h.2⟩
def aQY{n₀ Bn:Nat}{w:World}(hn:n₀<=w.heap.size)(hB:Bn < w.heap.size)(W:World)(l:Nat)(o o':Obj)(hl:w.heap.size<=l)(h:W.heap[l]?=some o)(h1:o.isCells=false)(h2:o.isWalk=false):KpL n₀ Bn W (W.putObj l o') :=
 ⟨belowK_b hn W l o o' hl h h1 h2,World.putObj_heap_other (by omega)⟩
def N7.below{n₀:Nat}{W W':World}(h:N7 W)(hn:TB n₀)(hb:Below n₀ W W'):N7 W' :=
 h.UN ⟨hb.block _ hn.1,hb.block _ hn.2⟩
set_option maxRecDepth 100000 in
set_option maxHeartbeats 1000000 in
def aaH(n:Nat)(hn:1<=n)(l Bn n₀:Nat)(hn0:TB n₀)(s:ByteArray)(hs:s.size<=6000)(J Jx:List Tok->World->Prop)
   (hY:∀pre x W,J pre W->pre.length < (EZ (L s)).length->YieldAt bjW (n - 1) Tryz.prog l #[asS x] W λe W'=>
    (e=.returned (.bool true)/\J (pre++[x]) W'/\KpL n₀ Bn W W')\/(e=.returned (.bool false)/\Jx (pre++[x]) W'))
   (W:World) (hBn:Boxed W Bn 9 (.string s)) (hT:N7 W) (h0:J [] W):
   CallsIn bjW n Tryz.prog 120 #[.func (.yield l) #[] #[],.pointer (some ⟨Bn,0,none⟩)] W λe W'=>(∃v,e=.returned v) /\
    ((∃ys,(ys=EZ (L s))/\J ys W')\/(∃pre,pre <+: EZ (L s)/\Jx pre W')):=by
 have hc:=hBn.cell;have H0:Hid (EZ (L s)=FV (L s) (IH (L s))):=aUT (lZ _);have hsk:=aW (L s);refine callsIn_of_wp Tryz.func120 rfl trivial ?_ rfl;simp only[Tryz.ntmps120,bcW,amN,amO,bjN,bjO,bhC,bhD,bhU,bhJ,bcY,bcP]
 gi_wp2_with (refine⟨trivial,?_⟩;gi_at_call 121;refine(callsIn_wide.2 (uS s 0 _ (by omega) hT (by omega) (by omega))).mono ?_;rintro e w' ⟨rfl,rfl⟩)
 gi_loopw [3] (λa wr=>∃(pre:List Tok)(k:Nat),a=.int .i64 k/\k<=s.size/\Hid (EZ (L s)=pre++FV (L s) k)/\Boxed wr Bn 9 (.string s)/\N7 wr/\J pre wr)
   (λa _=>s.size - (intOf a).toNat)
 case atStart=>
  refine⟨[],IH (L s),?_,?_,aUT ?_,hBn,hT,h0⟩
  ·simp
  ·simpa using hsk
  ·rw[bcY];exact H0.out
 case round=>
  obtain⟨pre,k,rfl,hk,HX,hBr,hTr,hJs⟩:=hrel;have hcr:=hBr.cell;by_cases hlt:k < s.size
  ·have hlt':k < (L s).length:=by simpa using hlt
   by_cases hz:(Bi ((L s).drop k)).1=0
   ·have HE:Hid (EZ (L s)=pre++[(0,[],k)]):=aUT (by rw[HX.out,Uf _ _ hlt' hz])
    have HO:Hid (UP k (Bi ((L s).drop k))=.tuple #[.int .i64 0,.int .i64 0]):=aUT (by unfold UP;rw[if_pos hz]);clear hz;obtain⟨fn,tmps,assign,body,hy,hR⟩:=hY pre (0,[],k) wr hJs (by rw[HE.out];simp);dsimp only[asS] at hy;rw[show((0:Nat):Int)=0 from rfl,show([]:List UInt8).toArray=#[] from rfl] at hy
    gi_wp2_with (refine⟨trivial,?_⟩;gi_at_call 122;refine(callsIn_wide.2 (uB s k _ hs hTr (by omega) (by omega))).mono ?_;rintro e w' ⟨rfl,rfl⟩;rw[aUW,HO.out])
    refine hR.mono ?_;rintro e W3 (⟨rfl,hJ3,hk3⟩ | ⟨rfl,hJx3⟩)
    ·gi_wp2
     refine bodyPost_ret (results_none rfl _ _ _) rfl ?_;exact⟨⟨_,rfl⟩,.inl ⟨_,HE.out.symm,hJ3⟩⟩
    ·gi_wp2
     refine bodyPost_ret (results_none rfl _ _ _) rfl ?_;exact⟨⟨_,rfl⟩,.inr ⟨_,by rw[HE.out];exact List.prefix_refl _,hJx3⟩⟩
   ·obtain⟨q,d,hqd⟩:∃q d,Bi ((L s).drop k)=(q,d):=⟨_,_,rfl⟩
    have hpos:=Xt _ hz;rw[hqd] at hz hpos;rw[M7] at hpos;obtain⟨hd1,hd2⟩:=hpos;simp only at hd1 hd2 hz;have hq:((q:Int) == 0)=false:=by rw[beq_eq_false_iff_ne];omega
    have HE:Hid (EZ (L s)=pre++(q,((L s).drop k).take d,k)::FV (L s) (k+d+IH ((L s).drop (k+d)))):=aUT (by rw[HX.out,Ug _ _ hlt' (by rw[hqd];exact hz),hqd]);have HO:Hid (UP k (Bi ((L s).drop k))=.tuple #[.int .i64 q,.int .i64 (k+d:Nat)]):=aUT (by unfold UP;rw[hqd,if_neg hz]);clear hz hqd;have hsk2:=aW ((L s).drop (k+d));rw[M7] at hsk2;obtain⟨fn,tmps,assign,body,hy,hR⟩:=hY pre (q,((L s).drop k).take d,k) wr hJs (by rw[HE.out];simp);have HT:Hid ((⟨(((L s).drop k).take d).toArray⟩:ByteArray)=s.extract k (k+d)):=aUT (Go.WideShapes.bytes_inj (by rw[biF];simp));dsimp only[asS] at hy;rw[HT.out] at hy;have hkd:k+d<=s.size:=by omega
    gi_wp2_with (refine⟨trivial,?_⟩;gi_at_call 122;refine(callsIn_wide.2 (uB s k _ hs hTr (by omega) (by omega))).mono ?_;rintro e w' ⟨rfl,rfl⟩;rw[aUW,HO.out])
    refine hR.mono ?_;rintro e W3 (⟨rfl,hJ3,hk3⟩ | ⟨rfl,hJx3⟩)
    ·have hT3:N7 W3:=hTr.below hn0 hk3.1
     have hB3:Boxed W3 Bn 9 (.string s):=hk3.2.trans hBr;have hc3:=hB3.cell
     gi_wp2_with (refine⟨trivial,?_⟩;gi_at_call 121;refine(callsIn_wide.2 (uS s _ _ (by omega) hT3 (by omega) (by omega))).mono ?_;rintro e w' ⟨rfl,rfl⟩)
     go_roundw
     case rel=>
      refine⟨_,k+d+IH ((L s).drop (k+d)),?_,by omega,aUT ?_,hB3,hT3,hJ3⟩
      ·rw[show((k:Int)+(d:Int)).toNat=k+d from by omega]
       exact congrArg (Value.int .i64) (by omega)
      ·rw[HE.out];simp
     case measure=>
      rw[show((k:Int)+(d:Int)).toNat=k+d from by omega];simp only[intOf];omega
    ·gi_wp2
     refine bodyPost_ret (results_none rfl _ _ _) rfl ?_;exact⟨⟨_,rfl⟩,.inr ⟨_,by rw[HE.out];exact⟨FV (L s) (k+d+IH ((L s).drop (k+d))),by simp⟩,hJx3⟩⟩
  ·have hge:s.size<=k:=by omega
   have HE:Hid (EZ (L s)=pre):=aUT (by rw[HX.out,Zu _ _ (by simpa using hge)];simp)
   gi_wp2
   go_end0
   exact⟨⟨_,rfl⟩,.inl ⟨pre,HE.out.symm,hJs⟩⟩
set_option maxHeartbeats 1000000 in
def aiG(n:Nat)(s:ByteArray)(w:World) :
   CallsIn bjW n Tryz.prog 75 #[.string s] w λe w'=>e=.returned (.func (.func 120) #[] #[.pointer (some ⟨w.heap.size,0,none⟩)])/\w'=w.alloc (.cells #[.string s] 9):=by
 refine callsIn_of_wp Tryz.func75 rfl trivial ?_ rfl;simp only[Tryz.ntmps75,bcW,amN,amO,bjN,bjO,bhC,bhD,bhU,bhJ,bcY,bcP]
 gi_wp2
 go_ret
 exact⟨rfl,rfl⟩
def oY(n:Nat)(hn:1<=n)(Bn n₀:Nat)(hn0:TB n₀)(s:ByteArray)(hs:s.size<=6000)(w:World)(hB:Bn < w.heap.size)(hn1:n₀<=w.heap.size)(hb:Boxed w Bn 9 (.string s))(hT:N7 w) :
   SeqStopsK bjW n Tryz.prog 120 #[.pointer (some ⟨Bn,0,none⟩)] (λx:Tok=>#[asS x]) (KpL n₀ Bn) (λys=>ys=EZ (L s)) (λpre=>pre <+: EZ (L s)) (EZ (L s)).length w:=λl J Jx W hW _ _ hY h0=>
 aaH n hn l Bn n₀ hn0 s hs J Jx hY W ((hW.block Bn hB).trans hb) (hT.below (n₀:=w.heap.size) hT.tb hW) h0
attribute [local go_sem] Oper.semAt_some
def KO(l:List Tok):List Value:=l.flatMap λx=>[.int .i64 x.1,.string ⟨x.2.1.toArray⟩,.int .i64 x.2.2]
def mA(r:List Tok×Nat×Nat)(w:World)(e:Ending)(w':World):Prop :=
 ∃v,e=.returned (.tuple #[v,.int .i64 r.2.1,.int .i64 r.2.2])/\w'.ownsRow w.heap.size 65 3 v r.1.length (KO r.1)/\Below w.heap.size w w'
def Tryz.awS:(Tryz.prog.info? 65).map (λi=>(i.zero,i.size,i.bytes))=some (some (.agg #[.int .i64 0,.string ⟨#[]⟩,.int .i64 0]),3,32):=by kernel_rfl
def jE(l:List Tok)(x:Tok):KO (l++[x])=KO l++[.int .i64 x.1,.string ⟨x.2.1.toArray⟩,.int .i64 x.2.2]:=by unfold KO;simp
set_option maxHeartbeats 1000000 in
def aoO(s:ByteArray)(w:World)(hs:6000 < s.size) :
   Calls Tryz.prog 35 #[.string s] w (mA ([],2,0) w):=by
 go_enter Tryz.func35,Tryz.ntmps35
 go_wp2_with fail
 refine bodyPost_ret (v:=.tuple #[.slice none 0 0,.int .i64 2,.int .i64 0]) (by simp[results,Tryz.results35,go_sem]) rfl ?_;exact⟨_,rfl,bhV _ _ _ _,(((Below.refl _ _).alloc (aHT _) _).alloc (by simp) _).alloc (by simp;omega) _⟩
def aNW(s:ByteArray)(w:World)(pre:List Tok)(W:World):Prop :=
 (((((∃v,Boxed W (w.heap.size+1+1+1) 41 v/\W.ownsRow w.heap.size 65 3 v pre.length (KO pre)/\True) /\
  Boxed W w.heap.size 41 (.slice none 0 0))/\Boxed W (w.heap.size+1) 30 (.int .i64 0))/\Boxed W (w.heap.size+1+1) 3 (.int .i64 0))/\Boxed W (w.heap.size+1+1+1+1) 9 (.string s))/\pQ pre/\Below w.heap.size w W
def aoM(s:ByteArray)(w:World)(B:Nat)(hB:w.heap.size<=B):OwnFrom B (aNW s w) :=
 bhE (bhE (bhE (bhE (bhE (Own.from (holdsRow_own w.heap.size (w.heap.size+1+1+1) 41 65 3 (λpre:List Tok=>pre.length) KO (λ_ _=>True)) _) (Own.from (boxed_own _ _ (λ_=>_)) _)) (Own.from (boxed_own _ _ (λ_=>_)) _)) (Own.from (boxed_own _ _ (λ_=>_)) _)) (Own.from (boxed_own _ _ (λ_=>_)) _)) (bhE (ownFrom_pure _ pQ) (ownFrom_below (aHT _) hB))
def aFX(w:World)(c:Code)(pre:List Tok)(W:World):Prop :=
 (c=.ret/\(∃q x err,(pre=q++[x]/\pQ q/\((q.length=2000/\err=2)\/(q.length < 2000/\x.1=0/\err=61))) /\
  Boxed W w.heap.size 41 (.slice none 0 0)/\Boxed W (w.heap.size+1) 30 (.int .i64 (err:Nat))/\Boxed W (w.heap.size+1+1) 3 (.int .i64 x.2.2)))/\Below w.heap.size w W
def Tp{X Y:World}{row:Option Nat}{B b:Nat}{t:TypeId}{v:Value}(h:Boxed X b t v)(hg:X.grownBy Y row)(hr:∀r,row=some r->B<=r/\∃o:Obj,X.heap[r]?=some o/\o.isCells=false):Boxed Y b t v :=
 boxed_own b t (λ(_:Unit)=>v) () X Y row h hg (λr e=>(hr r e).2)
def aoN(w:World)(B:Nat)(hB:w.heap.size<=B)(c:Code):OwnFrom B (aFX w c):=by intro pre X Y row hs hg hr;obtain⟨⟨hc,q,x,err,h1,h2,h3,h4⟩,h5⟩:=hs;exact⟨⟨hc,q,x,err,h1,Tp h2 hg hr,Tp h3 hg hr,Tp h4 hg hr⟩,ownFrom_below (β:=Unit) (aHT _) hB () X Y row h5 hg hr⟩
def Vq(W:World)(B:Nat)(x:Tok):Prop:=W.heap[B]?=some (.cells #[.int .i64 x.1,.string ⟨x.2.1.toArray⟩,.int .i64 x.2.2] 65 (0,0))
def Vq.kept{X Y:World}{row:Option Nat}{b:Nat}{x:Tok}(h:Vq X b x)(hg:X.grownBy Y row)(hr:some b≠row):Vq Y b x :=
 (hg.block b (Array.getElem?_eq_some_iff.1 h).1 hr).trans h
def Vq.keeps{X Y:World}{row:Option Nat}{B b:Nat}{x:Tok}(h:Vq X b x)(hg:X.grownBy Y row)(hr:∀r,row=some r->B<=r/\∃o:Obj,X.heap[r]?=some o/\o.isCells=false):Vq Y b x:=by refine h.kept hg (λe=>?_);obtain⟨_,o,ho,hc⟩:=hr b e.symm;rw[show X.heap[b]?=_ from h] at ho;cases ho;cases hc
def afR(w:World)(a b c:Value)(t:TypeId):∀(j:Nat) u,[a,b,c][j]?=some u->(w.alloc (.cells #[a,b,c] t)).cell? ((⟨w.heap.size,0,none⟩:Addr).add j)=some u:=by
 intro j u hu;have hh:=heap_alloc_new w (.cells #[a,b,c] t)
 match j,hu with|0,hu=>rw[show(⟨w.heap.size,0,none⟩:Addr).add 0=⟨w.heap.size,0,none⟩ from rfl,cell_of_row _ _ _ _ _ _ hh];simpa using hu|1,hu=>rw[show(⟨w.heap.size,0,none⟩:Addr).add 1=⟨w.heap.size,1,none⟩ from rfl,cell_of_row _ _ _ _ _ _ hh];simpa using hu|2,hu=>rw[show(⟨w.heap.size,0,none⟩:Addr).add 2=⟨w.heap.size,2,none⟩ from rfl,cell_of_row _ _ _ _ _ _ hh];simpa using hu|n+3,hu=>simp at hu
def OD{X:World}{b D:Nat}{t:TypeId}{v:Value}{o:Obj}(h:Boxed X b t v)(hne:b≠D):Boxed (X.putObj D o) b t v :=
 h.kept (grownBy_putObj' X D o) (λe=>hne (by cases e;rfl))
def acI{w W:World}{B:Nat}{pre:List Tok}{x:Tok}{err:Nat}(c0:Boxed W w.heap.size 41 (.slice none 0 0))(c1:Boxed W (w.heap.size+1) 30 (.int .i64 0))(c2:Boxed W (w.heap.size+1+1) 3 (.int .i64 0))(hG:pQ pre)(hB:Below w.heap.size w W)
   (he:(pre.length=2000/\err=2)\/(pre.length < 2000/\x.1=0/\err=61)):
   KeepsFrom B W (((W.setCell ⟨w.heap.size,0,none⟩ (.slice none 0 0)).setCell ⟨w.heap.size+1,0,none⟩ (.int .i64 (err:Nat))).setCell ⟨w.heap.size+1+1,0,none⟩ (.int .i64 x.2.2)).drew /\
   aFX w .ret (pre++[x]) (((W.setCell ⟨w.heap.size,0,none⟩ (.slice none 0 0)).setCell ⟨w.heap.size+1,0,none⟩ (.int .i64 (err:Nat))).setCell ⟨w.heap.size+1+1,0,none⟩ (.int .i64 x.2.2)).drew:=by
 refine⟨((((beN _ _ _).trans (beN _ _ _)).trans (beN _ _ _)).trans (KeepsOthers.drew _)).from _,⟨rfl,pre,x,err,⟨rfl,hG,he⟩,?_,?_,?_⟩,?_⟩
 ·exact((c0.set _).other (by omega) _).other (by omega) _
 ·exact((c1.other (by omega) _).set _).other (by omega) _
 ·exact((c2.other (by omega) _).other (by omega) _).set _
 ·exact(((hB.setCell (p:=⟨w.heap.size,0,none⟩) (aHT _) _).setCell (p:=⟨w.heap.size+1,0,none⟩) (by simp) _).setCell (p:=⟨w.heap.size+1+1,0,none⟩) (by simp;omega) _).drew
set_option maxRecDepth 100000 in
set_option maxHeartbeats 2000000 in
def agQ(s:ByteArray)(w:World)(hT:N7 w)(hs:s.size<=6000) :
   Calls Tryz.prog 35 #[.string s] w (mA (FZ [] (EZ (L s))) w):=by
 have hb:decide ((6000:Int) < (s.size:Int))=false:=by simp;omega
 have hT2:TB w.heap.size:=hT.tb;obtain⟨i0,hi,hz0,hz1,hz2⟩:=info_parts Tryz.awS;have hmo:Tryz.prog.follows Departure.mixedOrders=true:=by kernel_rfl
 refine(callsIn_wide (n:=8)).1 ?_;refine callsIn_of_wp_marks Tryz.func35 rfl trivial ?_ rfl;simp only[Tryz.ntmps35,bcW,amN,amO,bjN,bjO,bhC,bhD,bhU,bhJ,bcY,bcP]
 gi_wp2_with (refine⟨trivial,?_⟩;gi_at_call 75;refine(aiG _ s _).mono ?_;rintro e w' ⟨rfl,rfl⟩)
 obtain⟨W0,hW0⟩:∃W0,((((w.alloc (.cells #[.slice none 0 0] 41)).alloc (.cells #[.int .i64 0] 30)).alloc (.cells #[.int .i64 0] 3)).alloc (.cells #[.slice none 0 0] 41)).alloc (.cells #[.string s] 9)=W0:=⟨_,rfl⟩;have hsz:W0.heap.size=w.heap.size+5:=by rw[<- hW0];simp
 have b0:Boxed W0 w.heap.size 41 (.slice none 0 0):=by rw[<- hW0];exact((((bjG w _ _).alloc _).alloc _).alloc _).alloc _
 have b1:Boxed W0 (w.heap.size+1) 30 (.int .i64 0):=by rw[<- hW0];have:=((((bjG (w.alloc (.cells #[.slice none 0 0] 41)) 30 (.int .i64 0)).alloc (.cells #[.int .i64 0] 3)).alloc (.cells #[.slice none 0 0] 41)).alloc (.cells #[.string s] 9));rw[bdA] at this;exact this
 have b2:Boxed W0 (w.heap.size+1+1) 3 (.int .i64 0):=by rw[<- hW0];have:=(((bjG ((w.alloc (.cells #[.slice none 0 0] 41)).alloc (.cells #[.int .i64 0] 30)) 3 (.int .i64 0)).alloc (.cells #[.slice none 0 0] 41)).alloc (.cells #[.string s] 9));rw[bdA,bdA] at this;exact this
 have b3:Boxed W0 (w.heap.size+1+1+1) 41 (.slice none 0 0):=by rw[<- hW0];have:=((bjG (((w.alloc (.cells #[.slice none 0 0] 41)).alloc (.cells #[.int .i64 0] 30)).alloc (.cells #[.int .i64 0] 3)) 41 (.slice none 0 0)).alloc (.cells #[.string s] 9));rw[bdA,bdA,bdA] at this;exact this
 have b4:Boxed W0 (w.heap.size+1+1+1+1) 9 (.string s):=by rw[<- hW0];have:=(bjG ((((w.alloc (.cells #[.slice none 0 0] 41)).alloc (.cells #[.int .i64 0] 30)).alloc (.cells #[.int .i64 0] 3)).alloc (.cells #[.slice none 0 0] 41)) 9 (.string s));rw[bdA,bdA,bdA,bdA] at this;exact this
 have hB0:Below w.heap.size w W0:=by rw[<- hW0];exact(((((Below.refl _ w).alloc (aHT _) _).alloc (by simp) _).alloc (by simp;omega) _).alloc (by simp;omega) _).alloc (by simp;omega) _
 have hT0:N7 W0:=hT.below hT2 hB0;rw[hW0];clear hW0
 refine wpIn_rangeFunc_ownH rfl (by omega) (gf:=120) (lb:=#[.pointer (some ⟨w.heap.size+1+1+1+1,0,none⟩)]) rfl trivial (enters_of Tryz.func120 (by kernel_rfl) rfl)
   (oY 7 (by omega) (w.heap.size+1+1+1+1) w.heap.size hT2 s hs W0 (by omega) (by omega) b4 hT0) aQZ (aQY (by omega) (by omega)) (Below.refl _ _) (λ_=>rfl)
   (aNW s w) (aFX w) (aoM s w _ (by omega)) (aoN w _ (by omega))
   ⟨⟨⟨⟨⟨⟨_,b3,bhV _ _ _ _,trivial⟩,b0⟩,b1⟩,b2⟩,b4⟩,⟨by simp,by simp⟩,hB0⟩
   (λx a' W=>∃Bx,w.heap.size+1+1+1+1 < Bx/\Vq W Bx x/\a'={ tmps:=#[.string s,undef,.pointer (some ⟨w.heap.size,0,none⟩),.pointer (some ⟨w.heap.size+1,0,none⟩),.pointer (some ⟨w.heap.size+1+1,0,none⟩),.pointer (some ⟨w.heap.size+1+1+1,0,none⟩),.pointer (some ⟨Bx,0,none⟩),.string s,.int .i64 s.size,.bool false,.string s,.func (.func 120) #[] #[.pointer (some ⟨w.heap.size+1+1+1+1,0,none⟩)],.agg #[.int .i64 x.1,.string ⟨x.2.1.toArray⟩,.int .i64 x.2.2],undef,undef,undef,undef,undef,undef,undef,undef,undef,undef,undef,undef,undef,undef,undef],defers:=[] })
   (λx a' _ X Y row hs hg hr=>by obtain⟨Bx,h1,h2,h3⟩:=hs;exact⟨Bx,h1,h2.keeps hg hr,h3⟩)
   ?assign ?body ?done ?stop
 case assign=>
  rintro l pre x W K hI hK;dsimp only[asS]
  gi_wp2
  obtain⟨⟨⟨⟨⟨⟨v,hv,hrow,_⟩,c0⟩,c1⟩,c2⟩,c4⟩,hG,hB⟩:=hI;exact hK _ _ ((KeepsOthers.alloc _ _).from _) ⟨(Below.refl _ W).alloc hB.size _,Below.heap_alloc _ _ _ c4.lt⟩ ⟨⟨⟨⟨⟨⟨v,hv.alloc _,hrow.alloc _,trivial⟩,c0.alloc _⟩,c1.alloc _⟩,c2.alloc _⟩,c4.alloc _⟩,hG,hB.alloc hB.size _⟩ ⟨W.heap.size,c4.lt,heap_alloc_new W _,rfl⟩
 case body=>
  rintro l pre x a' W hl ⟨r,hr⟩ hI ⟨Bx,hBx,bX,rfl⟩ hlt;obtain⟨⟨⟨⟨⟨⟨v,hv,hrow,_⟩,c0⟩,c1⟩,c2⟩,c4⟩,hG,hB⟩:=hI
  obtain⟨A,cp,rfl⟩:∃A cp,v=.slice A pre.length cp:=by
   rcases hrow.2 with ⟨h,h0⟩ | ⟨g,cap,cur,h,_⟩
   ·exact⟨none,0,by rw[h,h0]⟩
   ·exact⟨_,cap,h⟩
  have hc:=hv.cell;have k0:W.cell? ⟨Bx,0,none⟩=some (.int .i64 x.1):=by rw[cell_of_row W Bx 0 _ _ _ bX];rfl
  have k1:W.cell? ⟨Bx,1,none⟩=some (.string ⟨x.2.1.toArray⟩):=by rw[cell_of_row W Bx 1 _ _ _ bX];rfl
  have k2:W.cell? ⟨Bx,2,none⟩=some (.int .i64 x.2.2):=by rw[cell_of_row W Bx 2 _ _ _ bX];rfl
  have hlen:=hG.1;by_cases h2000:pre.length=2000
  ·have hb2:((pre.length:Int) == 2000)=true:=by rw[beq_iff_eq];omega
   have f0:=c0.frozen;have f1:=c1.frozen;have f2:=c2.frozen;have d0:=c0.cell;have d1:=c1.cell;have d2:=c2.cell;have HL:=aUT h2000;clear h2000
   gi_wp2
   gi_region_o
   all_goals gi_wp2
   all_goals exact acI (err:=2) c0 c1 c2 hG hB (.inl ⟨HL.out,rfl⟩)
  ·have hb2:((pre.length:Int) == 2000)=false:=by rw[beq_eq_false_iff_ne];omega
   have HL:=aUT h2000;clear h2000;by_cases hx0:x.1=0
   ·have hb3:((x.1:Int) == 0)=true:=by rw[beq_iff_eq];omega
    have HX:=aUT hx0;clear hx0;have f0:=c0.frozen;have f1:=c1.frozen;have f2:=c2.frozen;have d0:=c0.cell;have d1:=c1.cell;have d2:=c2.cell
    gi_wp2
    gi_region_o
    all_goals gi_wp2
    all_goals exact acI (err:=61) c0 c1 c2 hG hB (.inr ⟨by have:=HL.out;omega,HX.out,rfl⟩)
   ·have hb3:((x.1:Int) == 0)=false:=by rw[beq_eq_false_iff_ne];omega
    have HX:=aUT hx0;clear hx0;have hlen2:pre.length+1<=2000:=by have:=HL.out;omega
    gi_wp2_with (gi_at_builtin;refine wpListIn_append_own _ rfl _ _ 41 rfl w.heap.size 65 i0 _ 3 32 Tryz.underlying41 hi hz0 hz1 hz2 rfl (by decide) _ _ _ rfl (hrow.alloc _) ⟨W.heap.size,0,none⟩ 1 1 [.int .i64 x.1,.string ⟨x.2.1.toArray⟩,.int .i64 x.2.2] rfl rfl (afR _ _ _ _ _) (by simp[Value.oneCell']) (by unfold maxLen;omega) (by omega) (by have:=hB.size;simp;omega) ?_;intro v' w1 hown' hgrow _;obtain⟨g',cap',rfl⟩:=ownsRow_succ hown';obtain⟨hv1,hv2,hr2,hk2,hb2'⟩:=hv.appended (by decide) hrow hB.size (by omega) hown' hgrow;have hc1:=hv1.cell;have hf1:=hv1.frozen)
    have e0:=((c0.alloc _).kept hgrow (c0.not_row (by decide) hrow)).other (B':=w.heap.size+1+1+1) (by omega) (.slice (some ⟨g',0,none⟩) (pre.length+1) cap');have e1:=((c1.alloc _).kept hgrow (c1.not_row (by decide) hrow)).other (B':=w.heap.size+1+1+1) (by omega) (.slice (some ⟨g',0,none⟩) (pre.length+1) cap');have e2:=((c2.alloc _).kept hgrow (c2.not_row (by decide) hrow)).other (B':=w.heap.size+1+1+1) (by omega) (.slice (some ⟨g',0,none⟩) (pre.length+1) cap');have e4:=((c4.alloc _).kept hgrow (c4.not_row (by decide) hrow)).other (B':=w.heap.size+1+1+1) (by omega) (.slice (some ⟨g',0,none⟩) (pre.length+1) cap');refine⟨hk2.from _,⟨hb2',e4.trans c4.symm⟩,⟨⟨⟨⟨⟨_,hv2,?_,trivial⟩,e0⟩,e1⟩,e2⟩,e4⟩,⟨by simp;omega,?_⟩,hB.trans hb2'⟩
    ·rw[jE,cZ]
     exact hr2
    ·intro y hy
     rcases List.mem_append.1 hy with h | h
     ·exact hG.2 y h
     ·rw[List.mem_singleton] at h;rw[h];exact HX.out
 case done=>
  rintro D ys W hD rfl hI hK;obtain⟨⟨⟨⟨⟨⟨v,hv,hrow,_⟩,c0⟩,c1⟩,c2⟩,c4⟩,hG,hB⟩:=hI
  have HO:Hid (FZ [] (EZ (L s))=(EZ (L s),0,0)):=by
   refine aUT ?_;have:=Zi [] (EZ (L s)) [] (by simpa using hG)
   simpa[FZ] using this
  obtain⟨A,cp,rfl⟩:∃A cp,v=.slice A (EZ (L s)).length cp:=by
   rcases hrow.2 with ⟨h,h0⟩ | ⟨g,cap,cur,h,_⟩
   ·exact⟨none,0,by rw[h,h0]⟩
   ·exact⟨_,cap,h⟩
  have hc:=hv.cell;have f0:=c0.frozen;have f1:=c1.frozen;have f2:=c2.frozen;have d0:=c0.cell;have d1:=c1.cell;have d2:=c2.cell
  gi_wp2
  have hKF:=(((beN W ⟨w.heap.size,0,none⟩ (.slice A (EZ (L s)).length cp)).trans (beN _ ⟨w.heap.size+1,0,none⟩ (.int .i64 0))).trans (beN _ ⟨w.heap.size+1+1,0,none⟩ (.int .i64 0))).same D _ hK rfl;refine⟨by simp,.inl ⟨_,_,rfl,run_takeDeferred hKF,?_⟩⟩;have g0:=OD (D:=D) (o:=.deferred none) (((c0.set (.slice A (EZ (L s)).length cp)).other (B':=w.heap.size+1) (by omega) (.int .i64 0)).other (B':=w.heap.size+1+1) (by omega) (.int .i64 0)) (by omega);have g1:=OD (D:=D) (o:=.deferred none) (((c1.other (B':=w.heap.size) (by omega) (.slice A (EZ (L s)).length cp)).set (.int .i64 0)).other (B':=w.heap.size+1+1) (by omega) (.int .i64 0)) (by omega);have g2:=OD (D:=D) (o:=.deferred none) (((c2.other (B':=w.heap.size) (by omega) (.slice A (EZ (L s)).length cp)).other (B':=w.heap.size+1) (by omega) (.int .i64 0)).set (.int .i64 0)) (by omega);refine⟨.tuple #[.slice A (EZ (L s)).length cp,.int .i64 0,.int .i64 0],?_,?_⟩
  ·have g0':=g0.cell
   have g1':=g1.cell;have g2':=g2.cell;simp[results,Tryz.results35,go_sem,g0',g1',g2']
  ·rw[HO.out]
   refine⟨_,rfl,?_,?_⟩
   ·refine ownsRow_putObj (l:=D) ?_ _ hKF rfl
    have r1:=hrow.kept (grownBy_setCell' W w.heap.size (.slice A (EZ (L s)).length cp)) (.inr (c0.not_row (by decide) hrow).symm);have r2:=r1.kept (grownBy_setCell' _ (w.heap.size+1) (.int .i64 0)) (.inr (c1.not_row (by decide) hrow).symm);exact r2.kept (grownBy_setCell' _ (w.heap.size+1+1) (.int .i64 0)) (.inr (c2.not_row (by decide) hrow).symm)
   ·exact(((hB.setCell (p:=⟨w.heap.size,0,none⟩) (aHT _) _).setCell (p:=⟨w.heap.size+1,0,none⟩) (by simp) _).setCell (p:=⟨w.heap.size+1+1,0,none⟩) (by simp;omega) _).trans (belowK_b (w:=w) (aHT _) _ D _ _ (by omega) hKF rfl rfl)
 case stop=>
  rintro D c pre W hD hpre hX hK;obtain⟨⟨rfl,q,x,err,⟨rfl,hG,he⟩,c0,c1,c2⟩,hB⟩:=hX
  have HO:Hid (FZ [] (EZ (L s))=([],err,x.2.2)):=by
   refine aUT ?_;obtain⟨r,hr⟩:=hpre;rw[<- hr,List.append_assoc,Zi [] q _ (by simpa using hG)]
   simp only[bcY,bcP,FZ];rcases he with ⟨h1,h2⟩ | ⟨h1,h2,h3⟩
   ·rw[if_pos h1,h2]
   ·rw[if_neg (by omega),if_pos h2,h3]
  have d0:=c0.cell;have d1:=c1.cell;have d2:=c2.cell
  gi_wp2
  refine⟨by simp,.inl ⟨_,_,rfl,run_takeDeferred hK,?_⟩⟩;have g0:=OD (D:=D) (o:=.deferred none) c0 (by omega);have g1:=OD (D:=D) (o:=.deferred none) c1 (by omega);have g2:=OD (D:=D) (o:=.deferred none) c2 (by omega);refine⟨.tuple #[.slice none 0 0,.int .i64 err,.int .i64 x.2.2],?_,?_⟩
  ·have g0':=g0.cell
   have g1':=g1.cell;have g2':=g2.cell;simp[results,Tryz.results35,go_sem,g0',g1',g2']
  ·rw[HO.out]
   exact⟨_,rfl,bhV _ _ _ _,hB.trans (belowK_b (w:=w) (aHT _) W D _ _ (by omega) hK rfl rfl)⟩
def axB(s:ByteArray)(w:World)(hT:N7 w):Calls Tryz.prog 35 #[.string s] w (mA (NF (L s)) w):=by
 unfold NF;have hl:(L s).length=s.size:=by simp
 rw[hl];by_cases h:6000 < s.size
 ·rw[if_pos h];exact aoO s w h
 ·rw[if_neg h];exact agQ s w hT (by omega)
end Go.Proofs.YtkcimienkafhmaaGreatDoor
namespace LexS
def akR(t:List UInt8):Gb t=true↔10<=t.length/\∀i,i < 10->Hy t i=true:=by unfold Gb;simp[bcC]
end LexS
namespace Go.Proofs
open Go.Shelf
def Tryz.sG:bkE:=⟨λ| 172=>172 | 244=>186 | 245=>187 | 247=>197 | 279=>198 | 280=>199 | 281=>200 | 282=>201 | 287=>211 | 316=>212 | 171=>55 | 205=>213 | 321=>219 | 322=>220 | 243=>105 | 246=>146 | 283=>164 | 284=>165 | 285=>166 | 286=>167 | 129=>182 | 317=>181 | 318=>183 | 319=>184 | 320=>185 | 337=>195 | 338=>196 | n=>n,λ| 9=>9 | 3=>3 | 75=>84 | 76=>85 | 4=>4 | 5=>5 | 167=>183 | 37=>78 | 0=>0 | 85=>184 | 2=>2 | 168=>186 | 53=>154 | 175=>197 | 46=>171 | 210=>200 | 127=>120 | 145=>207 | 143=>205 | 21=>21 | 171=>153 | 173=>157 | 212=>168 | 51=>169 | 20=>20 | 213=>170 | 232=>195 | 233=>196 | 80=>92 | n=>n,λ| 15=>12 | 16=>13 | 17=>6 | 18=>10 | 19=>11 | n=>n⟩
def Tryz.awZ:Go.Proofs.Lays.n172 Tryz.prog Tryz.sG:={
 mixed:=by kernel_rfl
 f129:=Tryz.func182.trans (congrArg some (by kernel_rfl))
 f171:=Tryz.func55.trans (congrArg some (by kernel_rfl))
 f172:=Tryz.func172.trans (congrArg some (by kernel_rfl))
 f205:=Tryz.func213.trans (congrArg some (by kernel_rfl))
 f243:=Tryz.func105.trans (congrArg some (by kernel_rfl))
 f244:=Tryz.func186.trans (congrArg some (by kernel_rfl))
 f245:=Tryz.func187.trans (congrArg some (by kernel_rfl))
 f246:=Tryz.func146.trans (congrArg some (by kernel_rfl))
 f247:=Tryz.func197.trans (congrArg some (by kernel_rfl))
 f279:=Tryz.func198.trans (congrArg some (by kernel_rfl))
 f280:=Tryz.func199.trans (congrArg some (by kernel_rfl))
 f281:=Tryz.func200.trans (congrArg some (by kernel_rfl))
 f282:=Tryz.func201.trans (congrArg some (by kernel_rfl))
 f283:=Tryz.func164.trans (congrArg some (by kernel_rfl))
 f284:=Tryz.func165.trans (congrArg some (by kernel_rfl))
 f285:=Tryz.func166.trans (congrArg some (by kernel_rfl))
 f286:=Tryz.func167.trans (congrArg some (by kernel_rfl))
 f287:=Tryz.func211.trans (congrArg some (by kernel_rfl))
 f316:=Tryz.func212.trans (congrArg some (by kernel_rfl))
 f317:=Tryz.func181.trans (congrArg some (by kernel_rfl))
 f318:=Tryz.func183.trans (congrArg some (by kernel_rfl))
 f319:=Tryz.func184.trans (congrArg some (by kernel_rfl))
 f320:=Tryz.func185.trans (congrArg some (by kernel_rfl))
 f321:=Tryz.func219.trans (congrArg some (by kernel_rfl))
 f322:=Tryz.func220.trans (congrArg some (by kernel_rfl))
 f337:=Tryz.func195.trans (congrArg some (by kernel_rfl))
 f338:=Tryz.func196.trans (congrArg some (by kernel_rfl))
 t0:=Tryz.underlying0
 a0:=Tryz.isAgg0
 z0:=Tryz.sizeOf0
 v0:=Tryz.zeroValue0
 t2:=Tryz.underlying2
 a2:=Tryz.isAgg2
 z2:=Tryz.sizeOf2
 v2:=Tryz.zeroValue2
 t3:=Tryz.underlying3
 a3:=Tryz.isAgg3
 z3:=Tryz.sizeOf3
 v3:=Tryz.zeroValue3
 t4:=Tryz.underlying4
 a4:=Tryz.isAgg4
 z4:=Tryz.sizeOf4
 v4:=Tryz.zeroValue4
 t5:=Tryz.underlying5
 a5:=Tryz.isAgg5
 z5:=Tryz.sizeOf5
 v5:=Tryz.zeroValue5
 t9:=Tryz.underlying9
 a9:=Tryz.isAgg9
 z9:=Tryz.sizeOf9
 v9:=Tryz.zeroValue9
 t20:=Tryz.underlying20
 a20:=Tryz.isAgg20
 z20:=Tryz.sizeOf20
 v20:=Tryz.zeroValue20
 t21:=Tryz.underlying21
 a21:=Tryz.isAgg21
 z21:=Tryz.sizeOf21
 v21:=Tryz.zeroValue21
 t37:=Tryz.underlying78
 a37:=Tryz.isAgg78
 z37:=Tryz.sizeOf78
 v37:=Tryz.zeroValue78
 t46:=Tryz.underlying171
 a46:=Tryz.isAgg171
 z46:=Tryz.sizeOf171
 v46:=Tryz.zeroValue171
 t51:=Tryz.underlying169
 a51:=Tryz.isAgg169
 z51:=Tryz.sizeOf169
 v51:=Tryz.zeroValue169
 t53:=Tryz.underlying154
 a53:=Tryz.isAgg154
 z53:=Tryz.sizeOf154
 v53:=Tryz.zeroValue154
 t75:=Tryz.underlying84
 a75:=Tryz.isAgg84
 z75:=Tryz.sizeOf84
 v75:=Tryz.zeroValue84
 t76:=Tryz.underlying85
 a76:=Tryz.isAgg85
 z76:=Tryz.sizeOf85
 v76:=Tryz.zeroValue85
 t85:=Tryz.underlying184
 a85:=Tryz.isAgg184
 z85:=Tryz.sizeOf184
 v85:=Tryz.zeroValue184
 t127:=Tryz.underlying120
 a127:=Tryz.isAgg120
 z127:=Tryz.sizeOf120
 v127:=Tryz.zeroValue120
 t143:=Tryz.underlying205
 a143:=Tryz.isAgg205
 z143:=Tryz.sizeOf205
 v143:=Tryz.zeroValue205
 t145:=Tryz.underlying207
 a145:=Tryz.isAgg207
 z145:=Tryz.sizeOf207
 v145:=Tryz.zeroValue207
 t167:=Tryz.underlying183
 a167:=Tryz.isAgg183
 z167:=Tryz.sizeOf183
 v167:=Tryz.zeroValue183
 t168:=Tryz.underlying186
 a168:=Tryz.isAgg186
 z168:=Tryz.sizeOf186
 v168:=Tryz.zeroValue186
 t171:=Tryz.underlying153
 a171:=Tryz.isAgg153
 z171:=Tryz.sizeOf153
 v171:=Tryz.zeroValue153
 t173:=Tryz.underlying157
 a173:=Tryz.isAgg157
 z173:=Tryz.sizeOf157
 v173:=Tryz.zeroValue157
 t175:=Tryz.underlying197
 a175:=Tryz.isAgg197
 z175:=Tryz.sizeOf197
 v175:=Tryz.zeroValue197
 t210:=Tryz.underlying200
 a210:=Tryz.isAgg200
 z210:=Tryz.sizeOf200
 v210:=Tryz.zeroValue200
 t212:=Tryz.underlying168
 a212:=Tryz.isAgg168
 z212:=Tryz.sizeOf168
 v212:=Tryz.zeroValue168
 t213:=Tryz.underlying170
 a213:=Tryz.isAgg170
 z213:=Tryz.sizeOf170
 t232:=Tryz.underlying195
 a232:=Tryz.isAgg195
 z232:=Tryz.sizeOf195
 v232:=Tryz.zeroValue195
 t233:=Tryz.underlying196
 a233:=Tryz.isAgg196
 z233:=Tryz.sizeOf196
 v233:=Tryz.zeroValue196
 g15:=by kernel_rfl
 g16:=by kernel_rfl
 g17:=by kernel_rfl
 g18:=by kernel_rfl
 g19:=by kernel_rfl }
open Go.RowKit in
def Tryz.strconv_Atoi(s:ByteArray)(n:Int)(hl:s.size<=18)(h:Lib.atoi s.data.toList=some n)(w:World) :
   Calls Tryz.prog 172 #[.string s] w λe w'=>e=.returned (.tuple #[.int .i64 n,.nilIface])/\∃t,w'=Lib.bytesWorld w 5 t:=Any.strconv_Atoi Tryz.awZ s n hl h w
def Tryz.oA:bkE:=⟨λ| 171=>55 | 243=>105 | 246=>146 | 283=>164 | 284=>165 | 285=>166 | 286=>167 | 129=>182 | 317=>181 | 318=>183 | 319=>184 | 320=>185 | 337=>195 | 338=>196 | n=>n,λ| 3=>3 | 9=>9 | 2=>2 | 4=>4 | 171=>153 | 0=>0 | 53=>154 | 37=>78 | 5=>5 | 173=>157 | 212=>168 | 51=>169 | 20=>20 | 213=>170 | 46=>171 | 232=>195 | 233=>196 | n=>n,λ| 17=>6 | 18=>10 | 19=>11 | n=>n⟩
def Tryz.aoE:Go.Proofs.LaysM.n171 Tryz.prog Tryz.oA:={
 mixed:=by kernel_rfl
 f129:=Tryz.func182.trans (congrArg some (by kernel_rfl))
 f171:=Tryz.func55.trans (congrArg some (by kernel_rfl))
 f243:=Tryz.func105.trans (congrArg some (by kernel_rfl))
 f246:=Tryz.func146.trans (congrArg some (by kernel_rfl))
 f283:=Tryz.func164.trans (congrArg some (by kernel_rfl))
 f284:=Tryz.func165.trans (congrArg some (by kernel_rfl))
 f285:=Tryz.func166.trans (congrArg some (by kernel_rfl))
 f286:=Tryz.func167.trans (congrArg some (by kernel_rfl))
 f317:=Tryz.func181.trans (congrArg some (by kernel_rfl))
 f318:=Tryz.func183.trans (congrArg some (by kernel_rfl))
 f319:=Tryz.func184.trans (congrArg some (by kernel_rfl))
 f320:=Tryz.func185.trans (congrArg some (by kernel_rfl))
 f337:=Tryz.func195.trans (congrArg some (by kernel_rfl))
 f338:=Tryz.func196.trans (congrArg some (by kernel_rfl))
 t0:=Tryz.underlying0
 a0:=Tryz.isAgg0
 z0:=Tryz.sizeOf0
 v0:=Tryz.zeroValue0
 t2:=Tryz.underlying2
 a2:=Tryz.isAgg2
 z2:=Tryz.sizeOf2
 v2:=Tryz.zeroValue2
 t3:=Tryz.underlying3
 a3:=Tryz.isAgg3
 z3:=Tryz.sizeOf3
 v3:=Tryz.zeroValue3
 t4:=Tryz.underlying4
 a4:=Tryz.isAgg4
 z4:=Tryz.sizeOf4
 v4:=Tryz.zeroValue4
 t5:=Tryz.underlying5
 a5:=Tryz.isAgg5
 z5:=Tryz.sizeOf5
 v5:=Tryz.zeroValue5
 t9:=Tryz.underlying9
 a9:=Tryz.isAgg9
 z9:=Tryz.sizeOf9
 v9:=Tryz.zeroValue9
 t20:=Tryz.underlying20
 a20:=Tryz.isAgg20
 z20:=Tryz.sizeOf20
 v20:=Tryz.zeroValue20
 t37:=Tryz.underlying78
 a37:=Tryz.isAgg78
 z37:=Tryz.sizeOf78
 v37:=Tryz.zeroValue78
 t46:=Tryz.underlying171
 a46:=Tryz.isAgg171
 z46:=Tryz.sizeOf171
 v46:=Tryz.zeroValue171
 t51:=Tryz.underlying169
 a51:=Tryz.isAgg169
 z51:=Tryz.sizeOf169
 v51:=Tryz.zeroValue169
 t53:=Tryz.underlying154
 a53:=Tryz.isAgg154
 z53:=Tryz.sizeOf154
 v53:=Tryz.zeroValue154
 t171:=Tryz.underlying153
 a171:=Tryz.isAgg153
 z171:=Tryz.sizeOf153
 v171:=Tryz.zeroValue153
 t173:=Tryz.underlying157
 a173:=Tryz.isAgg157
 z173:=Tryz.sizeOf157
 v173:=Tryz.zeroValue157
 t212:=Tryz.underlying168
 a212:=Tryz.isAgg168
 z212:=Tryz.sizeOf168
 v212:=Tryz.zeroValue168
 t213:=Tryz.underlying170
 a213:=Tryz.isAgg170
 z213:=Tryz.sizeOf170
 t232:=Tryz.underlying195
 a232:=Tryz.isAgg195
 z232:=Tryz.sizeOf195
 v232:=Tryz.zeroValue195
 t233:=Tryz.underlying196
 a233:=Tryz.isAgg196
 z233:=Tryz.sizeOf196
 v233:=Tryz.zeroValue196
 g17:=by kernel_rfl
 g18:=by kernel_rfl
 g19:=by kernel_rfl
 i0:=by kernel_rfl
 i2:=by kernel_rfl
 i3:=by kernel_rfl
 i4:=by kernel_rfl
 i5:=by kernel_rfl
 i9:=by kernel_rfl
 i20:=by kernel_rfl
 i37:=by kernel_rfl
 i46:=by kernel_rfl
 i51:=by kernel_rfl
 i53:=by kernel_rfl
 i171:=by kernel_rfl
 i173:=by kernel_rfl
 i212:=by kernel_rfl
 i232:=by kernel_rfl
 i233:=by kernel_rfl
 m17:=by kernel_rfl
 m18:=by kernel_rfl
 m19:=by kernel_rfl }
open Go.RowKit Go.Sort Go.Lib in
def Tryz.strconv_Itoa(n:Int)(h0:-9223372036854775808<=n)(h1:n<=9223372036854775807)(w:World)(agI:Lib.TabIs Tryz.prog w "internal/strconv.uint64pow10" .u64 bfS) :
   Calls Tryz.prog 55 #[.int .i64 n] w λe w'=>e=.returned (.string ⟨(Lib.itoa n).toArray⟩)/\∃k os,w'=grow (w.drewN k) os:=Any.strconv_Itoa Tryz.aoE n h0 h1 w agI
def Tryz.Zh:bkE:=⟨λ| 154=>160 | 138=>175 | 165=>176 | 143=>177 | 166=>54 | 197=>178 | 169=>59 | 195=>189 | 218=>190 | 240=>104 | 241=>191 | 219=>192 | 260=>193 | 276=>145 | 277=>205 | 217=>206 | 225=>207 | 224=>208 | 267=>209 | 266=>216 | 314=>217 | n=>n,λ| 9=>9 | 3=>3 | 4=>4 | 72=>80 | 0=>0 | 76=>85 | 105=>163 | 21=>21 | 5=>5 | 70=>77 | 20=>20 | 37=>78 | 75=>84 | 127=>120 | 164=>137 | 46=>171 | 119=>191 | 139=>194 | 138=>193 | 146=>202 | 51=>169 | 80=>92 | n=>n,λ| 1=>7 | 3=>8 | 4=>9 | n=>n⟩
def Tryz.awY:Go.Proofs.Lays.n154 Tryz.prog Tryz.Zh:={
 mixed:=by kernel_rfl
 f138:=Tryz.func175.trans (congrArg some (by kernel_rfl))
 f143:=Tryz.func177.trans (congrArg some (by kernel_rfl))
 f154:=Tryz.func160.trans (congrArg some (by kernel_rfl))
 f165:=Tryz.func176.trans (congrArg some (by kernel_rfl))
 f166:=Tryz.func54.trans (congrArg some (by kernel_rfl))
 f169:=Tryz.func59.trans (congrArg some (by kernel_rfl))
 f195:=Tryz.func189.trans (congrArg some (by kernel_rfl))
 f197:=Tryz.func178.trans (congrArg some (by kernel_rfl))
 f217:=Tryz.func206.trans (congrArg some (by kernel_rfl))
 f218:=Tryz.func190.trans (congrArg some (by kernel_rfl))
 f219:=Tryz.func192.trans (congrArg some (by kernel_rfl))
 f224:=Tryz.func208.trans (congrArg some (by kernel_rfl))
 f225:=Tryz.func207.trans (congrArg some (by kernel_rfl))
 f240:=Tryz.func104.trans (congrArg some (by kernel_rfl))
 f241:=Tryz.func191.trans (congrArg some (by kernel_rfl))
 f260:=Tryz.func193.trans (congrArg some (by kernel_rfl))
 f266:=Tryz.func216.trans (congrArg some (by kernel_rfl))
 f267:=Tryz.func209.trans (congrArg some (by kernel_rfl))
 f276:=Tryz.func145.trans (congrArg some (by kernel_rfl))
 f277:=Tryz.func205.trans (congrArg some (by kernel_rfl))
 f314:=Tryz.func217.trans (congrArg some (by kernel_rfl))
 t0:=Tryz.underlying0
 a0:=Tryz.isAgg0
 z0:=Tryz.sizeOf0
 v0:=Tryz.zeroValue0
 t3:=Tryz.underlying3
 a3:=Tryz.isAgg3
 z3:=Tryz.sizeOf3
 v3:=Tryz.zeroValue3
 t4:=Tryz.underlying4
 a4:=Tryz.isAgg4
 z4:=Tryz.sizeOf4
 v4:=Tryz.zeroValue4
 t5:=Tryz.underlying5
 a5:=Tryz.isAgg5
 z5:=Tryz.sizeOf5
 v5:=Tryz.zeroValue5
 t9:=Tryz.underlying9
 a9:=Tryz.isAgg9
 z9:=Tryz.sizeOf9
 v9:=Tryz.zeroValue9
 t20:=Tryz.underlying20
 a20:=Tryz.isAgg20
 z20:=Tryz.sizeOf20
 v20:=Tryz.zeroValue20
 t21:=Tryz.underlying21
 a21:=Tryz.isAgg21
 z21:=Tryz.sizeOf21
 v21:=Tryz.zeroValue21
 t37:=Tryz.underlying78
 a37:=Tryz.isAgg78
 z37:=Tryz.sizeOf78
 v37:=Tryz.zeroValue78
 t46:=Tryz.underlying171
 a46:=Tryz.isAgg171
 z46:=Tryz.sizeOf171
 v46:=Tryz.zeroValue171
 t51:=Tryz.underlying169
 a51:=Tryz.isAgg169
 z51:=Tryz.sizeOf169
 v51:=Tryz.zeroValue169
 t70:=Tryz.underlying77
 a70:=Tryz.isAgg77
 z70:=Tryz.sizeOf77
 v70:=Tryz.zeroValue77
 t72:=Tryz.underlying80
 a72:=Tryz.isAgg80
 z72:=Tryz.sizeOf80
 v72:=Tryz.zeroValue80
 t75:=Tryz.underlying84
 a75:=Tryz.isAgg84
 z75:=Tryz.sizeOf84
 v75:=Tryz.zeroValue84
 t76:=Tryz.underlying85
 a76:=Tryz.isAgg85
 z76:=Tryz.sizeOf85
 v76:=Tryz.zeroValue85
 t105:=Tryz.underlying163
 a105:=Tryz.isAgg163
 z105:=Tryz.sizeOf163
 v105:=Tryz.zeroValue163
 t119:=Tryz.underlying191
 a119:=Tryz.isAgg191
 z119:=Tryz.sizeOf191
 t127:=Tryz.underlying120
 a127:=Tryz.isAgg120
 z127:=Tryz.sizeOf120
 v127:=Tryz.zeroValue120
 t138:=Tryz.underlying193
 a138:=Tryz.isAgg193
 z138:=Tryz.sizeOf193
 v138:=Tryz.zeroValue193
 t139:=Tryz.underlying194
 a139:=Tryz.isAgg194
 z139:=Tryz.sizeOf194
 v139:=Tryz.zeroValue194
 t146:=Tryz.underlying202
 a146:=Tryz.isAgg202
 z146:=Tryz.sizeOf202
 v146:=Tryz.zeroValue202
 t164:=Tryz.underlying137
 a164:=Tryz.isAgg137
 z164:=Tryz.sizeOf137
 v164:=Tryz.zeroValue137
 g1:=by kernel_rfl
 g3:=by kernel_rfl
 g4:=by kernel_rfl }
def Tryz.Wu:Builder.Extra Tryz.prog Tryz.Zh:={
 sizeBuilder:=by kernel_rfl
 liesBuilder:=by kernel_rfl
 t5:=Tryz.underlying5
 a5:=Tryz.isAgg5
 z5:=Tryz.sizeOf5
 v5:=Tryz.zeroValue5
 infoByte:=by kernel_rfl
 cellsByte:=by kernel_rfl
 sizeByte:=by kernel_rfl
 neB5:=by decide }
open Go.RowKit Go.Lib in
def Tryz.strings_Replace(s old new:ByteArray)(n:Int)(m:Int)(w:World)(hs:s.size < 4294967281)(hm:w.cell? ⟨7,0,none⟩=some (.int .i64 m))(h1:1<=old.size)(hlen:s.size+Lib.countB s old*new.size<=140737488355328) :
   Calls Tryz.prog 160 #[.string s,.string old,.string new,.int .i64 n] w λe w'=>
    e=.returned (.string ⟨(Lib.replace s.data.toList old.data.toList new.data.toList n).toArray⟩)/\Below w.heap.size w w':=Any.strings_Replace Tryz.awY Tryz.Wu s old new n m w hs hm h1 hlen
end Go.Proofs
namespace Go.Proofs.YtkcimienkafhmaaGreatDoor
open AI Go LexS
def Gz(s:List UInt8):AV:=.sc (.string ⟨s.toArray⟩)
namespace Hd
def avA:List AV:=(List.range 128).map λi=>.sc (.int .u8 (Nx i:Nat))
def azW:List AV:=F3.map Gz
def int(n:Int):AV:=.sc (.int .i64 n)
def aaK(n:Int):AV:=.sc (.int .u64 n)
def G(mx:Int):AP:=λg=>
 match bcA g 2 with|true=>some [Gz [111,114],Gz [],Gz [],Gz [],Gz [],Gz [],Gz [97,110,100],Gz [],Gz [],Gz [],Gz [],Gz [],Gz [],Gz [],Gz [],Gz [],Gz [],Gz [],Gz [61,61],Gz [33,61],Gz [60],Gz [60,61],Gz [62],Gz [62,61],Gz [43],Gz [45],Gz [],Gz [],Gz [],Gz [],Gz [42],Gz [47],Gz [97,116],Gz [],Gz [],Gz []]|false=>match bcA g 3 with|true=>some [Gz [],Gz [101,97,114,110],Gz [100,101,100,117,99,116],Gz [102,108,111,111,114],Gz [105,110,102,111]]|false=>match bcA g 4 with|true=>some [int 0,int 31,int 59,int 90,int 120,int 151,int 181,int 212,int 243,int 273,int 304,int 334,int 365]|false=>match bcA g 5 with|true=>some avA|false=>match bcA g 1 with|true=>some azW|false=>match bcA g 7 with|true=>some [int mx]|false=>match bcA g 6 with|true=>some (bfS.map aaK)|false=>match bcA g 0 with|true=>some [int 0,int 1,int 1,int 2,int 2,int 2,int 4,int 4,int 4,int 5,int 5,int 6]|false=>none
variable {mx:Int}
def mixed:Tryz.prog.follows .mixedOrders=true:=by kernel_rfl
def eP:∀l:List (List UInt8),BN (l.map Gz)=true
 |[]=>rfl
 |s::l=>by
  show(true&&BN (l.map Gz))=true;rw[eP l];rfl
def tE:∀l:List Nat,BN (l.map λi=>(.sc (.int .u8 (Nx i:Nat)):AV))=true
 |[]=>rfl
 |s::l=>by
  show(true&&BN (l.map λi=>(.sc (.int .u8 (Nx i:Nat)):AV)))=true;rw[tE l];rfl
def lB:∀l:List Int,BN (l.map aaK)=true
 |[]=>rfl
 |s::l=>by
  show(true&&BN (l.map aaK))=true;rw[lB l];rfl
def yZ(g:Nat)(cs:List AV)(h:G mx g=some cs):BN cs=true:=by unfold G at h;split at h;cases h;rfl;split at h;cases h;rfl;split at h;cases h;rfl;split at h;cases h;exact tE _;split at h;cases h;exact eP _;split at h;cases h;rfl;split at h;cases h;exact lB _;split at h;cases h;rfl;cases h
end Hd
end Go.Proofs.YtkcimienkafhmaaGreatDoor
namespace Go.Proofs.YtkcimienkafhmaaGreatDoor
open AI Go
namespace Mo
abbrev P:Program:=Tryz.prog
abbrev G(mx:Int):AP:=Hd.G mx
variable {G0:AP}
def TK{i n:Nat}(h:i < n):CV ((i:Nat):Int) ((n:Nat):Int)=true:=by rw[TJ];simp;exact h
def DS{a b:Int}(h:Bg a b=true):a=b:=by rw[Tw] at h;simpa using h
def cK{a b:Int}(h:Bg a b=false):a≠b:=by rw[Tw] at h;simpa using h
def aoF{a b:Int}(h:Lg a b=false):b < a:=by rw[dZ] at h;have:=of_decide_eq_false h;omega
def eG{a b:Int}(h:CV a b=true):a < b:=by rw[TJ] at h;exact of_decide_eq_true h
def Lh{a b:Int}(h:CV a b=false):b<=a:=by rw[TJ] at h;have:=of_decide_eq_false h;omega
def Vd{a b:Int}(h:a=b):Bg a b=true:=by rw[Tw];simpa using h
def Kx{a b:Int}(h:a≠b):Bg a b=false:=by rw[Tw];simpa using h
def eA{a b:Int}(h:a<=b):Lg a b=true:=by rw[dZ];exact decide_eq_true h
def W9{a b:Int}(h:b < a):Lg a b=false:=by rw[dZ];exact decide_eq_false (by omega)
def F5{a b:Int}(h:a < b):CV a b=true:=by rw[TJ];exact decide_eq_true h
def EA{a b:Int}(h:b<=a):CV a b=false:=by rw[TJ];exact decide_eq_false (by omega)
def PY{a b:ByteArray}(h:BE a.data.toList b.data.toList=true):a=b:=by rw[cJ] at h;exact ByteArray.ext (Array.ext' (eq_of_beq h))
def alC{a b:ByteArray}(h:BE a.data.toList b.data.toList=false):a≠b:=λe=>by
 subst e;rw[cJ] at h;simp at h
def aYK{n:Nat}{l:List AV}(h:BN l=true):plain (.sl .lost n l)=true:=by simp only[plain,h];rfl
def inC(x:Int):List AV:=[.sc (.int .i64 x)]
def u8C(x:Int):List AV:=[.sc (.int .u8 x)]
def J3(x:UInt8):List AV:=[.sc (.int .u8 ((x.toNat:Nat):Int))]
def stC(x:ByteArray):List AV:=[.sc (.string x)]
def aJT:SP inC (rows inC) 1:=⟨λ_=>rfl,λ_=>rfl,λ_=>rfl⟩
def aRA:SP J3 (rows J3) 1:=⟨λ_=>rfl,λ_=>rfl,λ_=>rfl⟩
def dY:SP stC (rows stC) 1:=⟨λ_=>rfl,λ_=>rfl,λ_=>rfl⟩
structure Pc where
 fr:Int
 BH:Int
 C7:Int
def Uv(x:Pc):List AV:=[.sc (.int .i64 x.fr),.sc (.int .i64 x.BH),.sc (.int .i64 x.C7)]
def dX:SP Uv (rows Uv) 3:=⟨λ_=>rfl,λ_=>rfl,λx=>(Se rfl (Se rfl (Se rfl rfl)))⟩
structure Pt where
 fr:Int
 BH:Int
 num:Int
 den:Int
def lC(x:Pt):List AV:=[.sc (.int .i64 x.fr),.sc (.int .i64 x.BH),.sc (.int .i64 x.num),.sc (.int .i64 x.den)]
def kM:SP lC (rows lC) 4:=⟨λ_=>rfl,λ_=>rfl,λx=>(Se rfl (Se rfl (Se rfl (Se rfl rfl))))⟩
structure Fn where
 den:Int
 ps:(List Pc)
def fnC(x:Fn):List AV:=[.sc (.int .i64 x.den),.sl .lost x.ps.length (rows Uv x.ps)]
def aRC:SP fnC (rows fnC) 2:=⟨λ_=>rfl,λ_=>rfl,λx=>(Se rfl (Se (dX.plS x.ps) rfl))⟩
structure Nd where
 kind:Int
 name:ByteArray
 unit:ByteArray
 n:Int
 fr:Int
 to:Int
 known:Int
 Cg:Fn
 kids:(List Nd)
 BH:Int
mutual
def ndK:Nd->List AV
 |⟨kind,name,unit,n,fr,to,known,Cg,kids,BH⟩=>[.sc (.int .i64 kind),.sc (.string name),.sc (.string unit),.sc (.int .i64 n),.sc (.int .i64 fr),.sc (.int .i64 to),.sc (.int .i64 known),.sc (.int .i64 Cg.den),.sl .lost Cg.ps.length (rows Uv Cg.ps),.sl .lost kids.length (Cv kids),.sc (.int .i64 BH)]
def Cv:List Nd->List AV
 |[]=>[]
 |k::ks=>ndK k++Cv ks
end
def Cf(x:Nd):List AV:=[.sc (.int .i64 x.kind),.sc (.string x.name),.sc (.string x.unit),.sc (.int .i64 x.n),.sc (.int .i64 x.fr),.sc (.int .i64 x.to),.sc (.int .i64 x.known),.sc (.int .i64 x.Cg.den),.sl .lost x.Cg.ps.length (rows Uv x.Cg.ps),.sl .lost x.kids.length (Cv x.kids),.sc (.int .i64 x.BH)]
def yS(x:Nd):ndK x=Cf x:=by cases x;rfl
def oD(l:List Nd):Cv l=rows Cf l:=by induction l with|nil=>rfl|cons k ks ih=>rw[Hc,Cv,ih,yS]
mutual
def apD:∀x:Nd,BN (ndK x)=true
 |⟨kind,name,unit,n,fr,to,known,Cg,kids,BH⟩=>by rw[ndK];exact(Se rfl (Se rfl (Se rfl (Se rfl (Se rfl (Se rfl (Se rfl (Se rfl (Se (dX.plS Cg.ps) (Se (aYK (acP kids)) (Se rfl rfl)))))))))))
def acP:∀l:List Nd,BN (Cv l)=true
 |[]=>rfl
 |k::ks=>by rw[Cv];exact aRU (apD k) (acP ks)
end
def KA:SP Cf Cv 11:=⟨oD,λ_=>rfl,λx=>by rw[<- yS];exact apD x⟩
structure Tk where
 kind:Int
 text:ByteArray
 BH:Int
def EC(x:Tk):List AV:=[.sc (.int .i64 x.kind),.sc (.string x.text),.sc (.int .i64 x.BH)]
def kN:SP EC (rows EC) 3:=⟨λ_=>rfl,λ_=>rfl,λx=>(Se rfl (Se rfl (Se rfl rfl)))⟩
structure Dg where
 err:Int
 BH:Int
def J5(x:Dg):List AV:=[.sc (.int .i64 x.err),.sc (.int .i64 x.BH)]
def acD:SP J5 (rows J5) 2:=⟨λ_=>rfl,λ_=>rfl,λx=>(Se rfl (Se rfl rfl))⟩
structure Pr where
 An:(List Tk)
 Na:Int
 Cb:Int
def Jw(x:Pr):List AV:=[.sl .lost x.An.length (rows EC x.An),.sc (.int .i64 x.Na),.sc (.int .i64 x.Cb)]
def aRD:SP Jw (rows Jw) 3:=⟨λ_=>rfl,λ_=>rfl,λx=>(Se (kN.plS x.An) (Se rfl (Se rfl rfl)))⟩
structure Ck where
 nodes:Int
def S5(x:Ck):List AV:=[.sc (.int .i64 x.nodes)]
def aRB:SP S5 (rows S5) 1:=⟨λ_=>rfl,λ_=>rfl,λx=>(Se rfl rfl)⟩
def u22:P.underlying 22=some (.slice 104):=by kernel_rfl
def aSD:(P.info? 104).map (·.size)=some 3:=by kernel_rfl
def i104:(P.info? 104).map (λi=>(i.size,i.bytes,i.zero.map (·.cells.size)))=some (3,24,some 3):=by kernel_rfl
def yG(own:AI.Own){l:List Pc}{i:Nat}{x:Pc}(h:l[i]?=some x):Df P 22 (.sl own l.length (rows Uv l)) (.sc (.int .i64 ((i:Nat):Int)))=some (.el (Uv x++rows Uv (l.drop (i+1)))):=dX.ix u22 aSD own h
def aDE(own:AI.Own){l:List Pc}{z:Int}{x:Pc}(h:FI l z=some x):Df P 22 (.sl own l.length (rows Uv l)) (.sc (.int .i64 z))=some (.el (Uv x++rows Uv (l.drop (z.toNat+1)))):=dX.ixz u22 aSD own h
def aPD(own:AI.Own)(l m:List Pc){o:AI.Own}{n:Nat}{ns:List AV}(hn:Wn ns (rows Uv m))(nQ:n=m.length)(ho:ns.all one=true)(hm:m.length≠0)(hlen:l.length+m.length<=100000000):Cd.ok P G0 (.cU 22 22 own l.length (rows Uv l) (.sl o n ns) 3 (l++m).length (rows Uv (l++m))):=dX.cU u22 u22 i104 (by decide) (by decide) own l m hn nQ ho hm hlen
def u25:P.underlying 25=some (.slice 27):=by kernel_rfl
def s27:(P.info? 27).map (·.size)=some 11:=by kernel_rfl
def i27:(P.info? 27).map (λi=>(i.size,i.bytes,i.zero.map (·.cells.size)))=some (11,136,some 11):=by kernel_rfl
def Cz(own:AI.Own){l:List Nd}{i:Nat}{x:Nd}(h:l[i]?=some x):Df P 25 (.sl own l.length (Cv l)) (.sc (.int .i64 ((i:Nat):Int)))=some (.el (Cf x++Cv (l.drop (i+1)))):=KA.ix u25 s27 own h
def aQT(own:AI.Own){l:List Nd}{z:Int}{x:Nd}(h:FI l z=some x):Df P 25 (.sl own l.length (Cv l)) (.sc (.int .i64 z))=some (.el (Cf x++Cv (l.drop (z.toNat+1)))):=KA.ixz u25 s27 own h
def WV(own:AI.Own)(l m:List Nd){o:AI.Own}{n:Nat}{ns:List AV}(hn:Wn ns (Cv m))(nQ:n=m.length)(ho:ns.all one=true)(hm:m.length≠0)(hlen:l.length+m.length<=100000000):Cd.ok P G0 (.cU 25 25 own l.length (Cv l) (.sl o n ns) 11 (l++m).length (Cv (l++m))):=KA.cU u25 u25 i27 (by decide) (by decide) own l m hn nQ ho hm hlen
def alW(own:AI.Own)(l m:List Nd){o:AI.Own}{n:Nat}{ns cs:List AV}(e:cs=Cv l)(hn:Wn ns (Cv m))(nQ:n=m.length)(ho:ns.all one=true)(hm:m.length≠0)(hlen:l.length+m.length<=100000000):Cd.ok P G0 (.cU 25 25 own l.length cs (.sl o n ns) 11 (l++m).length (Cv (l++m))):=e▸WV own l m hn nQ ho hm hlen
def aPC(own:AI.Own)(l m:List Nd){o:AI.Own}(hm:¬m.length=0)(hlen:l.length+m.length<=100000000):Cd.ok P G0 (.cU 25 25 own l.length (Cv l) (.sl o m.length (Cv m)) 11 (l++m).length (Cv (l++m))):=KA.cU u25 u25 i27 (by decide) (by decide) own l m (Wn.refl _) rfl (KA.aFY (λ_=>rfl) m) hm hlen
def aUL(own:AI.Own)(l m:List Nd){o:AI.Own}(s:AS)(hm:m.length=0)(hlen:l.length+m.length<=100000000):Cd.ok P G0 (.X1 s 25 25 (.sl own l.length (Cv l)) (.sl o m.length (Cv m)) (.sl own l.length (Cv l)) s):=KA.ga u25 u25 i27 (by decide) (by decide) own l m s hm hlen
def u36:P.underlying 36=some (.slice 56):=by kernel_rfl
def i56:(P.info? 56).map (λi=>(i.size,i.bytes,i.zero.map (·.cells.size)))=some (2,16,some 2):=by kernel_rfl
def aPE(own:AI.Own)(l m:List Dg){o:AI.Own}{n:Nat}{ns:List AV}(hn:Wn ns (rows J5 m))(nQ:n=m.length)(ho:ns.all one=true)(hm:m.length≠0)(hlen:l.length+m.length<=100000000):Cd.ok P G0 (.cU 36 36 own l.length (rows J5 l) (.sl o n ns) 2 (l++m).length (rows J5 (l++m))):=acD.cU u36 u36 i56 (by decide) (by decide) own l m hn nQ ho hm hlen
def u41:P.underlying 41=some (.slice 65):=by kernel_rfl
def s65:(P.info? 65).map (·.size)=some 3:=by kernel_rfl
def i65:(P.info? 65).map (λi=>(i.size,i.bytes,i.zero.map (·.cells.size)))=some (3,32,some 3):=by kernel_rfl
def anZ(own:AI.Own){l:List Tk}{z:Int}{x:Tk}(h:FI l z=some x):Df P 41 (.sl own l.length (rows EC l)) (.sc (.int .i64 z))=some (.el (EC x++rows EC (l.drop (z.toNat+1)))):=kN.ixz u41 s65 own h
def aPF(own:AI.Own)(l m:List Tk){o:AI.Own}{n:Nat}{ns:List AV}(hn:Wn ns (rows EC m))(nQ:n=m.length)(ho:ns.all one=true)(hm:m.length≠0)(hlen:l.length+m.length<=100000000):Cd.ok P G0 (.cU 41 41 own l.length (rows EC l) (.sl o n ns) 3 (l++m).length (rows EC (l++m))):=kN.cU u41 u41 i65 (by decide) (by decide) own l m hn nQ ho hm hlen
def u78:P.underlying 78=some (.slice 5):=by kernel_rfl
def i5:(P.info? 5).map (λi=>(i.size,i.bytes,i.zero.map (·.cells.size)))=some (1,1,some 1):=by kernel_rfl
def aYW:P.underlying 107=some (.slice 9):=by kernel_rfl
def s9:(P.info? 9).map (·.size)=some 1:=by kernel_rfl
def anY(own:AI.Own){l:List ByteArray}{i:Nat}{x:ByteArray}(h:l[i]?=some x):Df P 107 (.sl own l.length (rows stC l)) (.sc (.int .i64 ((i:Nat):Int)))=some (.el (stC x++rows stC (l.drop (i+1)))):=dY.ix aYW s9 own h
def aAP:P.underlying 174=some (.slice 176):=by kernel_rfl
def aSE:(P.info? 176).map (·.size)=some 4:=by kernel_rfl
def i176:(P.info? 176).map (λi=>(i.size,i.bytes,i.zero.map (·.cells.size)))=some (4,32,some 4):=by kernel_rfl
def aQR(own:AI.Own){l:List Pt}{i:Nat}{x:Pt}(h:l[i]?=some x):Df P 174 (.sl own l.length (rows lC l)) (.sc (.int .i64 ((i:Nat):Int)))=some (.el (lC x++rows lC (l.drop (i+1)))):=kM.ix aAP aSE own h
def aJO(own:AI.Own){l:List Pt}{z:Int}{x:Pt}(h:FI l z=some x):Df P 174 (.sl own l.length (rows lC l)) (.sc (.int .i64 z))=some (.el (lC x++rows lC (l.drop (z.toNat+1)))):=kM.ixz aAP aSE own h
def aHK(own:AI.Own)(l m:List Pt){o:AI.Own}{n:Nat}{ns:List AV}(hn:Wn ns (rows lC m))(nQ:n=m.length)(ho:ns.all one=true)(hm:m.length≠0)(hlen:l.length+m.length<=100000000):Cd.ok P G0 (.cU 174 174 own l.length (rows lC l) (.sl o n ns) 4 (l++m).length (rows lC (l++m))):=kM.cU aAP aAP i176 (by decide) (by decide) own l m hn nQ ho hm hlen
def pB(x:Int):Int:=beR.wrap (0 - x)
def w64(x:Int):Int:=beR.wrap x
def w8(x:Int):Int:=IntKind.u8.wrap x
def L7(x y:Int):Int:=beR.wrap (x.tdiv y)
def KS(x y:Int):Int:=x.tmod y
def Oc(x y:Int):Option Int:=if y=0 then none else some (L7 x y)
def WN(x y:Int):Option Int:=if y=0 then none else some (KS x y)
def Rz(s:ByteArray)(l h:Int):Option ByteArray:=if 0<=l/\l<=h/\h<=((s.data.toList.length:Nat):Int) then some ⟨((s.data.toList.drop l.toNat).take (h.toNat - l.toNat)).toArray⟩ else none
def U3{α:Type}(s:List α)(l h:Int):Option (List α):=if 0<=l/\l<=h/\h<=((s.length:Nat):Int) then some ((s.drop l.toNat).take (h.toNat - l.toNat)) else none
def mJ(z:Int)(h:0<=z):UH (.sc (.int .i64 z))=some z.toNat:=by unfold UH;simp[h]
def KX{a b c:Int}(h:Oc a b=some c)(x y:Operand):Md P .quo 3 x y (.sc (.int .i64 a)) (.sc (.int .i64 b))=some (.sc (.int .i64 c)):=by unfold Oc at h;split at h;cases h;rename_i hb;cases h;simp[Md,SF,XI,eqGuard,binOp,Op.intDiv,hb,AI.pv,jB,scalar,L7,Bind.bind,Sem.bind,Pure.pure]
def Uy{a b c:Int}(h:WN a b=some c)(x y:Operand):Md P .rem 3 x y (.sc (.int .i64 a)) (.sc (.int .i64 b))=some (.sc (.int .i64 c)):=by unfold WN at h;split at h;cases h;rename_i hb;cases h;simp[Md,SF,XI,eqGuard,binOp,Op.intDiv,hb,AI.pv,jB,scalar,KS,Bind.bind,Sem.bind,Pure.pure]
def us9:P.underlying 9=some .string:=by kernel_rfl
def A4{x y:ByteArray}(h:x.data.toList.length+y.data.toList.length<=9223372036854775807)(ox oy:Operand):Md P .add 9 ox oy (.sc (.string x)) (.sc (.string y))=some (.sc (.string (x++y))):=aGR h ox oy
def W7{s:ByteArray}{i:Nat}{c:UInt8}(h:s.data.toList[i]?=some c):Ly P 9 (.sc (.string s)) (.sc (.int .i64 ((i:Nat):Int)))=some (.sc (.int .u8 ((c.toNat:Nat):Int))):=by unfold Ly;rw[us9,mJ _ (by omega)];simp only[aUW,h]
def N1{s:ByteArray}{z:Int}{c:UInt8}(h:FI s.data.toList z=some c):Ly P 9 (.sc (.string s)) (.sc (.int .i64 z))=some (.sc (.int .u8 ((c.toNat:Nat):Int))):=by unfold FI at h;split at h;rename_i hz;have:=W7 h;rwa[Int.toNat_of_nonneg hz] at this;cases h
def MC{s v:ByteArray}{l h:Int}(e:Rz s l h=some v):Ml P 9 (.sc (.string s)) (some (.sc (.int .i64 l))) (some (.sc (.int .i64 h))) none=some (.sc (.string v)):=by unfold Rz at e;split at e;rename_i hc;cases e;unfold Ml;rw[us9];simp only[ON,mJ l hc.1,mJ h (by omega)];rw[if_pos ⟨by omega,by omega⟩];cases e
def azU(l h:Nat){s:List Nd}(h1:l<=h)(h2:h<=s.length)(lo hi:Option AV)(e1:ON 0 lo=some l)(e2:ON s.length hi=some h):Ml P 25 (.sl .lost s.length (Cv s)) lo hi none=some (.sl .lost ((s.drop l).take (h - l)).length (Cv ((s.drop l).take (h - l)))):=KA.sub u25 s27 l h h1 h2 lo hi e1 e2
def P8{s v:List Nd}{l:Int}(e:U3 s l ((s.length:Nat):Int)=some v):Ml P 25 (.sl .lost s.length (Cv s)) (some (.sc (.int .i64 l))) (none) none=some (.sl .lost v.length (Cv v)):=by unfold U3 at e;split at e;rename_i hc;cases e;exact azU _ _ (by omega) (by omega) _ _ (mJ l hc.1) rfl;cases e
def YD(x y:Pc):Bool:=x.fr == y.fr&&(x.BH == y.BH&&(x.C7 == y.C7))
def aaA(x y:Pc):pV [.int .i64 x.fr,.int .i64 x.BH,.int .i64 x.C7] [.int .i64 y.fr,.int .i64 y.BH,.int .i64 y.C7]=some (YD x y):=by simp only[pV,fEq,YD,if_true,Option.bind_some];cases (x.fr == y.fr)<;>cases (x.BH == y.BH)<;>cases (x.C7 == y.C7)<;>rfl
def avT:Flat P 104 [1,1,1]:=⟨by kernel_rfl,by kernel_rfl,by kernel_rfl,by kernel_rfl,by kernel_rfl,by kernel_rfl⟩
def apE{x y:Pc}{b:Bool}(h:YD x y=b)(ox oy:Operand):Md P .neq 104 ox oy (.agg (Uv x)) (.agg (Uv y))=some (.sc (.bool (!b))):=by subst h;exact(avT.bin (us:=[.int .i64 x.fr,.int .i64 x.BH,.int .i64 x.C7]) (vs:=[.int .i64 y.fr,.int .i64 y.BH,.int .i64 y.C7]) ⟨.inl ⟨_,rfl,rfl⟩,⟨.inl ⟨_,rfl,rfl⟩,⟨.inl ⟨_,rfl,rfl⟩,trivial⟩⟩⟩ ⟨.inl ⟨_,rfl,rfl⟩,⟨.inl ⟨_,rfl,rfl⟩,⟨.inl ⟨_,rfl,rfl⟩,trivial⟩⟩⟩ (aaA x y) ox oy).2
def uY(l:List Int):ByteArray:=⟨(l.map λx=>bgG x.toNat).toArray⟩
def adO:∀l:List Int,AI.bytesOf (rows u8C l)=some (l.map λx=>bgG x.toNat)
 |[]=>rfl
 |x::l=>by
  rw[Hc];show(match AI.byteOf (.sc (.int .u8 x)),AI.bytesOf (rows u8C l) with | some b,some m=>some (b::m) | _,_=>none)=_
  rw[adO l];rfl
def xB(own:AI.Own)(l:List Int):Te P 78 9 (.sl own l.length (rows u8C l))=some (.sc (.string (uY l))):=by
 have hl:l.length=(rows u8C l).length:=by rw[Ps (f:=u8C) (k:=1) (λ_=>rfl) l];omega
 unfold Te;rw[u78,us9];have h8:P.underlying 5=some (.int .u8):=by kernel_rfl
 simp only[h8];rw[if_pos hl,adO];rfl
structure Pb where
 text:List UInt8
 levels:Mm ByteArray Int
def adN(l:List UInt8):rows J3 l=byC l:=by
 unfold byC
 induction l with|nil=>rfl|cons c l ih=>rw[List.map_cons,Hc,ih];rfl
def awA(r:Nat)(l:List UInt8)(x:ByteArray)(hm:¬((x.data.toList.length:Nat):Int)=0)(hlen:l.length+x.data.toList.length<=100000000):Cd.ok P G0 (.cU 78 9 (.row r 0) l.length (rows J3 l) (.sc (.string x)) 0 (l++x.data.toList).length (rows J3 (l++x.data.toList))):=by rw[T8,adN x.data.toList,cZ];exact aPG u78 us9 i5 rfl r ((Ps (f:=J3) (k:=1) (λ_=>rfl) l).trans (Nat.mul_one _)) x (by omega) hlen
def beforeL:List Int:=[0,31,59,90,120,151,181,212,243,273,304,334,365]
def yH{z:Int}{x:Int}(h:FI beforeL z=some x):Df P 159 (.el (rows inC beforeL)) (.sc (.int .i64 z))=some (.el (inC x++rows inC (beforeL.drop (z.toNat+1)))):=aJT.ixa (elem:=3) (len:=13) (by kernel_rfl) (by kernel_rfl) rfl h
def DL(m:Mm ByteArray Int):AF:=mB (λn=>.string n) (λn=>.sc (.int .i64 n)) m
def aYY:P.underlying 76=some (.map 9 3):=by kernel_rfl
def aYX:P.underlying 9=some (.string):=by kernel_rfl
def aTW:LA P 3=some (.sc (.int .i64 0)):=by kernel_rfl
def aXY(m:Mm ByteArray Int)(k:ByteArray):Cd.ok P G0 (.lkB (DL m) 76 (.sc (.string k)) false (.sc (.int .i64 ((m.get k).getD 0)))):=aRJ (vv:=(λn=>.sc (.int .i64 n))) aYY aYX aXW (z:=0) aTW m k
def afB{a b:ByteArray}{q:Bool}(h:some (BE a.data.toList b.data.toList)=some q)(x y:Operand):Md P .eql 9 x y (.sc (.string a)) (.sc (.string b))=some (.sc (.bool q)):=by
 rw[<- Tc];cases h
 kernel_rfl
def afC{a b:Int}{q:Bool}(h:some (CV b a)=some q)(x y:Operand):Md P .gtr 3 x y (.sc (.int .i64 a)) (.sc (.int .i64 b))=some (.sc (.bool q)):=by
 rw[<- Tc];cases h
 kernel_rfl
def aTQ{a b:Int}{q:Bool}(h:some (Lg a b)=some q)(x y:Operand):Md P .leq 3 x y (.sc (.int .i64 a)) (.sc (.int .i64 b))=some (.sc (.bool q)):=by
 rw[<- Tc];cases h
 kernel_rfl
def CJ:ByteArray:=⟨#[32]⟩
def Eu:ByteArray:=⟨#[32,32,97,109,111,117,110,116,32]⟩
def Ev:ByteArray:=⟨#[32,32,117,110,108,101,115,115,32]⟩
def Gv:ByteArray:=⟨#[32,32,119,104,101,110,32]⟩
def F7:ByteArray:=⟨#[32,43,32]⟩
def F8:ByteArray:=⟨#[32,45,32]⟩
def A5:ByteArray:=⟨#[32,58,32]⟩
def BK:ByteArray:=⟨#[32,102,111,114,32]⟩
def B2:ByteArray:=⟨#[32,102,114,111,109,32]⟩
def Bt:ByteArray:=⟨#[32,107,110,111,119,110,32]⟩
def K8:ByteArray:=⟨#[32,109,105,110]⟩
def BI:ByteArray:=⟨#[32,114,97,110,107,32]⟩
def GK:ByteArray:=⟨#[32,116,111,32]⟩
def ID:ByteArray:=⟨#[32,123,10]⟩
def JU:ByteArray:=⟨#[33,61]⟩
def Mh:ByteArray:=⟨#[40]⟩
def F9:ByteArray:=⟨#[40,97,32,43,32,98,41,32,43,32,40,99,32,42,32,100,41]⟩
def EK:ByteArray:=⟨#[40,97,32,111,114,32,98,41,32,111,114,32,40,99,32,111,114,32,100,41]⟩
def Bl:ByteArray:=⟨#[40,104,111,117,114,115,32,45,32,52,56,48,32,109,105,110,41,32,97,116,32,114,97,116,101,32,42,32,50]⟩
def Pl:ByteArray:=⟨#[41]⟩
def Sf:ByteArray:=⟨#[42]⟩
def Ro:ByteArray:=⟨#[43]⟩
def ZG:ByteArray:=⟨#[44]⟩
def EX:ByteArray:=⟨#[44,32]⟩
def Em:ByteArray:=⟨#[45]⟩
def Nr:ByteArray:=⟨#[46]⟩
def CK:ByteArray:=⟨#[47]⟩
def zA:ByteArray:=⟨#[47,47]⟩
def Yp:ByteArray:=⟨#[48]⟩
def Hk:ByteArray:=⟨#[50,32,60,32,97,32,45,32,40,98,32,45,32,99,41]⟩
def eU:ByteArray:=⟨#[58]⟩
def VW:ByteArray:=⟨#[59]⟩
def EL:ByteArray:=⟨#[59,10]⟩
def TX:ByteArray:=⟨#[59,32]⟩
def Ns:ByteArray:=⟨#[60]⟩
def Jo:ByteArray:=⟨#[60,61]⟩
def JV:ByteArray:=⟨#[61,61]⟩
def QK:ByteArray:=⟨#[62]⟩
def Mz:ByteArray:=⟨#[62,61]⟩
def Ja:ByteArray:=⟨#[97,32,43,32,98,32,43,32,99,32,42,32,100]⟩
def E9:ByteArray:=⟨#[97,32,45,32,40,98,32,45,32,99,41,32,62,32,40,40,50,41,41]⟩
def FC:ByteArray:=⟨#[97,32,111,114,32,98,32,111,114,32,40,99,32,111,114,32,100,41]⟩
def Lz:ByteArray:=⟨#[97,109,111,117,110,116]⟩
def QY:ByteArray:=⟨#[97,110,100]⟩
def bU:ByteArray:=⟨#[97,114,116]⟩
def K9:ByteArray:=⟨#[97,114,116,32]⟩
def E4:ByteArray:=⟨#[97,114,116,105,99,108,101]⟩
def AE:ByteArray:=⟨#[97,114,116,105,99,108,101,32]⟩
def jQ:ByteArray:=⟨#[97,116]⟩
def WK:ByteArray:=⟨#[100,97,121]⟩
def PX:ByteArray:=⟨#[100,101,100,117,99,116]⟩
def WO:ByteArray:=⟨#[101,97,114,110]⟩
def PZ:ByteArray:=⟨#[102,97,99,116]⟩
def DO:ByteArray:=⟨#[102,97,99,116,32]⟩
def NB:ByteArray:=⟨#[102,97,108,115,101]⟩
def Tz:ByteArray:=⟨#[102,108,111,111,114]⟩
def iI:ByteArray:=⟨#[102,111,114]⟩
def WT:ByteArray:=⟨#[102,114,111,109]⟩
def EP:ByteArray:=⟨#[103,114,101,97,116,101,115,116]⟩
def Zc:ByteArray:=⟨#[105,110,102,111]⟩
def O0:ByteArray:=⟨#[107,110,111,119,110]⟩
def Jl:ByteArray:=⟨#[108,101,97,115,116]⟩
def LJ:ByteArray:=⟨#[108,105,110,101]⟩
def CC:ByteArray:=⟨#[108,105,110,101,32]⟩
def Ad:ByteArray:=⟨#[108,105,110,101,32,112,97,121,32,58,32,69,85,82,32,101,97,114,110,59,10,97,114,116,105,99,108,101,32,51,32,102,111,114,32,112,97,121,32,114,97,110,107,32,49,32,102,114,111,109,32,50,48,50,52,45,48,49,45,48,49,32,107,110,111,119,110,32,50,48,50,52,45,48,49,45,48,49,32,123,10,32,32,97,109,111,117,110,116,32,69,85,82,32,49,46,53,48,59,10,125,10]⟩
def Aa:ByteArray:=⟨#[108,105,110,101,32,112,97,121,58,69,85,82,32,101,97,114,110,59,97,114,116,105,99,108,101,32,51,32,102,111,114,32,112,97,121,32,114,97,110,107,32,49,32,102,114,111,109,32,50,48,50,52,45,48,49,45,48,49,32,107,110,111,119,110,32,50,48,50,52,45,48,49,45,48,49,123,97,109,111,117,110,116,32,69,85,82,32,49,46,53,48,59,125]⟩
def sM:ByteArray:=⟨#[109,105,110]⟩
def Dw:ByteArray:=⟨#[109,105,110,117,116,101,115]⟩
def LN:ByteArray:=⟨#[109,111,110,116,104]⟩
def UO:ByteArray:=⟨#[110,111,116]⟩
def Pm:ByteArray:=⟨#[110,111,116,32]⟩
def DF:ByteArray:=⟨#[110,111,116,32,40,110,111,116,32,40,97,32,111,114,32,98,41,41,32,97,110,100,32,99]⟩
def D7:ByteArray:=⟨#[110,111,116,32,110,111,116,32,40,97,32,111,114,32,98,41,32,97,110,100,32,99]⟩
def CW:ByteArray:=⟨#[110,117,109,98,101,114]⟩
def kZ:ByteArray:=⟨#[111,114]⟩
def Xs:ByteArray:=⟨#[114,97,110,107]⟩
def MD:ByteArray:=⟨#[116,97,98,108,101]⟩
def EM:ByteArray:=⟨#[116,97,98,108,101,40]⟩
def Bw:ByteArray:=⟨#[116,97,98,108,101,40,40,120,41,59,32,48,32,58,32,48,32,43,32,49,47,49,48,44,32,53,48,48,46,48,48,32,58,32,53,48,46,48,48,32,43,32,49,47,52,41]⟩
def Bf:ByteArray:=⟨#[116,97,98,108,101,40,120,59,32,48,46,48,48,32,58,32,48,46,48,48,32,43,32,50,47,50,48,44,32,53,48,48,46,48,48,32,58,32,53,48,46,48,48,32,43,32,53,47,50,48,41]⟩
def toS:ByteArray:=⟨#[116,111]⟩
def SN:ByteArray:=⟨#[116,114,117,101]⟩
def Ey:ByteArray:=⟨#[116,114,117,116,104]⟩
def MW:ByteArray:=⟨#[117,110,108,101,115,115]⟩
def Hw:ByteArray:=⟨#[119,101,101,107,100,97,121]⟩
def Vl:ByteArray:=⟨#[119,104,101,110]⟩
def Qi:ByteArray:=⟨#[121,101,97,114]⟩
def ahD:ByteArray:=⟨#[123]⟩
def zE:ByteArray:=⟨#[125]⟩
def NO:ByteArray:=⟨#[125,10]⟩
end Mo
end Go.Proofs.YtkcimienkafhmaaGreatDoor
namespace Go.Proofs.YtkcimienkafhmaaGreatDoor
open AI Go
namespace Mo
set_option maxRecDepth 100000
set_option maxHeartbeats 4000000
def aKN(x:Pc):Prop:=(-9223372036854775808<=x.fr/\x.fr<=9223372036854775807)/\(-9223372036854775808<=x.BH/\x.BH<=9223372036854775807)/\(-9223372036854775808<=x.C7/\x.C7<=9223372036854775807)
def sT(x:Fn):Prop:=x.ps.length<=9223372036854775807/\(∀y∈x.ps,aKN y)
mutual
def F6:Nd->Prop
 |⟨kind,name,unit,n,fr,to,known,Cg,kids,BH⟩=>sT Cg/\kids.length<=9223372036854775807/\sU kids
def sU:List Nd->Prop
 |[]=>True
 |k::ks=>F6 k/\sU ks
end
def kX{l:List Nd}:sU l↔∀k∈l,F6 k:=by induction l with|nil=>simp[sU]|cons k l ih=>simp[sU,ih]
def TO(x:Nd):F6 x↔sT x.Cg/\x.kids.length<=9223372036854775807/\∀y∈x.kids,F6 y:=by cases x;rw[F6,kX]
end Mo
end Go.Proofs.YtkcimienkafhmaaGreatDoor
