/- Part of a proof: see the last text. -/
import Derived.Test.YtpbkhogolfegfaaGreatDoorPnj
import Derived.Lib.Strings
import Derived.Lib.IndexBytes
import Derived.Deep.LoopGhost
set_option linter.unusedVariables false
set_option linter.unusedSimpArgs false
set_option linter.defProp false
noncomputable section
open Bool renaming false_eq_true->biT
open Go.ByteArray renaming toList_eq->boW
open Go.Ending renaming returned->bnS
open Go.Exit renaming noGoto_ret->brS
open Go.Instr renaming index->bkO
open Go.Lib renaming hid->bcI
open Int renaming eq_ofNat_of_zero_le->bkP,toNat_natCast->biW
open List renaming drop_drop->bjD,isPrefixOf->blM,isPrefixOf_iff_prefix->bkV
open Nat renaming add_assoc->blQ
open UInt8 renaming toNat_inj->bnQ
namespace Go.Proofs.YtpbkhogolfegfaaGreatDoor
open Go.RowKit LexS
def RS{a b:Bool}(h:a=b):bnS (.bool a)=.returned (.bool b):=by rw[h]
def ahI{k:IntKind}{a b:Int}(h:a=b):bnS (.int k a)=.returned (.int k b):=by rw[h]
def NW(s:ByteArray)(k:Nat):L (s.extract k s.size)=(L s).drop k:=Lib.extract_to_end s k
def aeF:L { data:=#[47,47] }=[47,47]:=rfl
set_option maxHeartbeats 400000 in
def Ib(a b:ByteArray)(w:World) :
   Calls Tryz.prog 151 #[.string a,.string b] w λe w'=>e=.returned (.bool ((L b).isPrefixOf (L a)))/\w=w':=by
 by_cases h:b.size<=a.size
 · go_enter Tryz.func151,Tryz.ntmps151
   go_wp2
   go_ret
   refine⟨RS (a:=((a.extract 0 b.size).toList == b.toList)) ?_,rfl⟩;rw[boW,boW,Lib.extract_data,NI];simp
 · go_enter Tryz.func151,Tryz.ntmps151
   go_wp2
   go_ret
   refine⟨RS (a:=false) ?_,rfl⟩;symm;rw[Bool.eq_false_iff];intro h2;have:=(bkV.1 h2).length_le;simp at this;omega
set_option maxHeartbeats 1000000 in
def yJ(s:ByteArray)(a:Int)(w:World)(hs:s.size<=9223372036854775806)(hT:Od w)(h0:0<=a)(ha:a<=s.size) :
   Calls Tryz.prog 116 #[.string s,.int .i64 a] w λe w'=>e=.returned (.int .i64 (a+Gc ((L s).drop a.toNat):Int))/\w=w':=by
 obtain⟨k0,rfl⟩:=bkP h0;rw[biW];have hk0:k0<=s.size:=by omega
 clear ha
 go_enter Tryz.func116,Tryz.ntmps116
 go_wp2_with fail
 go_step3
 go_wp2_with fail
 go_step3
 go_wp2_with fail
 go_loopg [1] (s.size - k0) (λg i wx=>∃k:Nat,w=wx/\k<=s.size/\g=s.size - k/\Hid (k+Gc ((L s).drop k)=k0+Gc ((L s).drop k0))/\i=.int .i64 k)
 case atStart=>exact⟨k0,rfl,hk0,rfl,bcI rfl,rfl⟩
 case round =>
   obtain⟨k,rfl,hk,rfl,HK,rfl⟩:=hrel
   have hk1:k+Bf 1 ((L s).drop k)<=s.size:=by
     have:=MW 1 ((L s).drop k);simp at this;omega
   obtain⟨k1,hk1e⟩:∃k1,k1=k+Bf 1 ((L s).drop k):=⟨_,rfl⟩
   have HK1:Hid (k1+Gc ((L s).drop k1)=k0+Gc ((L s).drop k0)):=by
     refine bcI ?_;have h1:=HK.out;have h2:=ajX ((L s).drop k);rw[bjD] at h2;unfold Gc at h1 ⊢;rw[hk1e];omega
   have hn1:F7 1 ((L s).drop k1)=false:=by
     have:=alU 1 ((L s).drop k);rw[bjD] at this;rw[hk1e];exact this
   have HN1:=bcI hn1;clear hn1;have hk1':k1<=s.size:=by omega
   have hkk:k<=k1:=by omega
   have HE:=bcI hk1e;clear hk1e hk1
   go_wp2_with fail
   refine(SG s _ 1 _ (by omega) hT (by omega) rfl).mono ?_;rintro e w' ⟨rfl,rfl⟩;rw[biW];rw[show((k:Int)+(Bf 1 ((L s).drop k):Int))=(k1:Int) from by rw[HE.out];omega];clear HE;cases hp:[47,47].isPrefixOf ((L s).drop k1) with
   | false =>
     have HP:=bcI hp;clear hp
     go_wp2_with fail
     refine(Ib _ _ _).mono ?_;rintro e w' ⟨rfl,rfl⟩;rw[NW,aeF,HP.out]
     go_wp2_with fail
     rw[brS]
     go_ret
     refine⟨ahI (a:=(k1:Int)) ?_,rfl⟩;have h1:=HK1.out;have h2:=vN _ HN1.out HP.out;unfold Gc at h1 ⊢;omega
   | true =>
     have HP:=bcI hp;clear hp
     go_wp2_with fail
     refine(Ib _ _ _).mono ?_;rintro e w' ⟨rfl,rfl⟩;rw[NW,aeF,HP.out]
     have hlen:k1+2<=s.size:=by
       have:=(bkV.1 HP.out).length_le;simp at this;omega
     have HC:Hid (k1+IK true ((L s).drop k1)=k0+Gc ((L s).drop k0)):=by
       refine bcI ?_;have h1:=HK1.out;have h2:=Zv _ HP.out;unfold Gc at h1 ⊢;omega
     have hne:Hid (s[k1]≠10):=by
       refine bcI ?_;have h1:=HP.out;rw[R9 s k1 (by omega)] at h1;simp[blM] at h1;rw[<- h1.1];decide
     clear HK1 HN1 HP
     go_wp2_with fail
     go_loopg [1] (s.size - k1) (λg i wx=>∃j:Nat,w=wx/\k1<=j/\j<=s.size/\g=s.size - j/\Hid (j=k1\/k1 < j)/\Hid (j+IK true ((L s).drop j)=k0+Gc ((L s).drop k0))/\i=.int .i64 j)
     case atStart=>exact⟨k1,rfl,Nat.le_refl _,by omega,rfl,bcI (.inl rfl),HC,rfl⟩
     case round =>
       obtain⟨j,rfl,hj1,hj2,rfl,HJ,HR,rfl⟩:=hrel;by_cases hlt:j < s.size
       · by_cases hnl:s[j]=10
         · have hb:((s[j].toNat:Int) == 10)=true:=by rw[hnl];rfl
           have hjk:k1 < j:=by
             rcases HJ.out with h | h
             · subst h;exact absurd hnl hne.out
             · exact h
           have HNL:=bcI hnl;clear hnl
           go_wp2_with fail
           go_roundg (s.size - j)
           case measure=>omega
           case rel =>
             refine⟨j,rfl,by omega,rfl,bcI ?_,rfl⟩;have h1:=HR.out;rw[R9 s j hlt,HNL.out,vM,<- HNL.out,<- R9 s j hlt] at h1;exact h1
         · have hb:((s[j].toNat:Int) == 10)=false:=by
             rw[beq_eq_false_iff_ne];intro h;apply hnl;exact bnQ.1 (by have:(10:UInt8).toNat=10:=rfl;omega)
           have HNL:=bcI hnl;clear hnl
           go_wp2_with fail
           go_roundg (s.size - (j+1))
           case measure=>omega
           case rel =>
             refine⟨j+1,rfl,by omega,by omega,rfl,bcI (.inr (by omega)),bcI ?_,by go_num⟩;have h1:=HR.out;rw[R9 s j hlt,aqE _ _ HNL.out] at h1;omega
       · have hge:s.size<=j:=by omega
         go_wp2_with fail
         rw[brS]
         go_ret
         refine⟨ahI (a:=(j:Int)) ?_,rfl⟩;have h1:=HR.out;rw[dU s j hge] at h1;simp only[IK] at h1;omega
end Go.Proofs.YtpbkhogolfegfaaGreatDoor
namespace Go.Proofs.YtpbkhogolfegfaaGreatDoor
open Go.RowKit LexS
def SW:L { data:=#[46] }=[46]:=rfl
def aeO{c d:UInt8}(h:c=d):((c.toNat:Int) == (d.toNat:Int))=true:=by rw[h];simp
def azD{c d:UInt8}(h:c≠d):((c.toNat:Int) == (d.toNat:Int))=false:=by
 rw[beq_eq_false_iff_ne];intro e;exact h (bnQ.1 (by omega))
def anS{c d:UInt8}(h:c≠d):((c.toNat:Int) != (d.toNat:Int))=true:=by
 rw[bne_iff_ne];intro e;exact h (bnQ.1 (by omega))
def anR{c d:UInt8}(h:c=d):((c.toNat:Int) != (d.toNat:Int))=false:=by rw[h];simp
def aMG(s:ByteArray)(k i:Nat)(h:k+i < s.size):((L s).drop k)[i]?=some (s[k+i]):=by
 rw[List.getElem?_drop,List.getElem?_eq_getElem (by simpa using h)];rfl
def vU(s:ByteArray)(k:Nat)(h:k < s.size):((L s).drop k).head?=some (s[k]):=by
 rw[R9 s k h];rfl
def M9(s:ByteArray)(k:Nat):((L s).drop k).length=s.size - k:=by simp
def aoP(t:List UInt8)(hl:10<=t.length)(h:∀j,j < 10->FM t j=true):EN t=true:=by
 unfold EN;simp only[hl,decide_true,Bool.true_and,List.all_eq_true,List.mem_range];exact h
def aeS(t:List UInt8)(i:Nat)(hi:i < 10)(h:FM t i=false):EN t=false:=by
 unfold EN;rw[Bool.and_eq_false_iff];right;rw[List.all_eq_false];exact⟨i,by simpa using hi,by simp[h]⟩
set_option maxHeartbeats 1000000 in
def abW(s:ByteArray)(a:Int)(w:World)(hs:s.size<=6000)(hT:Od w)(h0:0<=a)(ha:a<=s.size) :
   Calls Tryz.prog 171 #[.string s,.int .i64 a] w λe w'=>e=.returned (.bool (EN ((L s).drop a.toNat)))/\w=w':=by
 obtain⟨k,rfl⟩:=bkP h0;rw[biW];by_cases hl:s.size < k+10
 · go_enter Tryz.func171,Tryz.ntmps171
   go_wp2_with fail
   go_ret
   refine⟨RS (a:=false) ?_,rfl⟩;unfold EN;rw[M9];simp;omega
 · have hl10:k+10<=s.size:=by omega
   clear hl
   go_enter Tryz.func171,Tryz.ntmps171
   go_wp2_with fail
   go_loopg [11] 10 (λg x wx=>∃i:Nat,w=wx/\i<=10/\g=10 - i/\Hid (∀j,j < i->FM ((L s).drop k) j=true)/\x=.int .i64 i)
   case atStart=>exact⟨0,rfl,by omega,rfl,bcI (by omega),rfl⟩
   case round =>
     obtain⟨i,rfl,hi,rfl,HI,rfl⟩:=hrel;by_cases hi10:i < 10
     · by_cases h47:i=4\/i=7
       · have hd:Hid (FM ((L s).drop k) i=(some s[k+i] == some 45)):=by
           refine bcI ?_;unfold FM;rw[if_pos h47,aMG s k i (by omega)]
         have hsel:((i:Int) == 4)=true\/(((i:Int) == 4)=false/\((i:Int) == 7)=true):=by
           rcases h47 with rfl | rfl
           · left;rfl
           · right;exact⟨rfl,rfl⟩
         clear h47;by_cases hm:s[k+i]=45
         · have hb:((s[k+i].toNat:Int) != 45)=false:=anR hm
           have HM:=bcI hm;clear hm;rcases hsel with h4 | ⟨h4,h7⟩
           all_goals
             go_wp2_with fail
             go_roundg (10 - (i+1))
             case measure=>omega
             case rel =>
               refine⟨i+1,rfl,by omega,rfl,bcI ?_,by go_num⟩;intro j hj;by_cases hji:j=i
               · subst hji;rw[hd.out,HM.out];rfl
               · exact HI.out j (by omega)
         · have hb:((s[k+i].toNat:Int) != 45)=true:=anS hm
           have HM:=bcI hm;clear hm;rcases hsel with h4 | ⟨h4,h7⟩
           all_goals
             go_wp2_with fail
             go_ret
             refine⟨RS (a:=false) ?_,rfl⟩;symm;refine aeS _ i hi10 ?_;rw[hd.out];simpa using HM.out
       · have hd:Hid (FM ((L s).drop k) i=F7 8 ((L s).drop (k+i))):=by
           refine bcI ?_;unfold FM;rw[if_neg h47,bjD]
         have h4:((i:Int) == 4)=false:=by rw[beq_eq_false_iff_ne];omega
         have h7:((i:Int) == 7)=false:=by rw[beq_eq_false_iff_ne];omega
         clear h47;cases hb:F7 8 ((L s).drop (k+i)) with
         | true =>
           have HB:=bcI hb;clear hb
           go_wp2_with fail
           refine(Jq s _ 8 _ hT (by omega) rfl).mono ?_;rintro e w' ⟨rfl,rfl⟩;rw[show((k:Int)+(i:Int)).toNat=k+i from by omega,HB.out]
           go_wp2_with fail
           go_roundg (10 - (i+1))
           case measure=>omega
           case rel =>
             refine⟨i+1,rfl,by omega,rfl,bcI ?_,by go_num⟩;intro j hj;by_cases hji:j=i
             · subst hji;rw[hd.out,HB.out]
             · exact HI.out j (by omega)
         | false =>
           have HB:=bcI hb;clear hb
           go_wp2_with fail
           refine(Jq s _ 8 _ hT (by omega) rfl).mono ?_;rintro e w' ⟨rfl,rfl⟩;rw[show((k:Int)+(i:Int)).toNat=k+i from by omega,HB.out]
           go_wp2_with fail
           go_ret
           refine⟨RS (a:=false) ?_,rfl⟩;symm;refine aeS _ i hi10 ?_;rw[hd.out,HB.out]
     · have hge:10<=i:=by omega
       go_wp2_with fail
       go_ret
       refine⟨RS (a:=true) ?_,rfl⟩;symm;refine aoP _ (by rw[M9];omega) ?_;intro j hj;exact HI.out j (by omega)
def U7(k:Nat)(r:Nat×Nat):Value:=if r.1=0 then .tuple #[.int .i64 0,.int .i64 0] else .tuple #[.int .i64 r.1,.int .i64 ((k+r.2:Nat):Int)]
def Fc{k:Nat}{r:Nat×Nat}{v:Value}(h:v=U7 k r):bnS v=.returned (U7 k r):=by rw[h]
def aQM(m:Nat)(s:ByteArray)(k:Nat)(h:F7 m ((L s).drop k)=true):k < s.size:=(yG m s k h).2
def qB(t:List UInt8)(h1:F7 30 t=false)(h2:[46].isPrefixOf t=false):free t=true:=by
 unfold free;cases t with
 | nil=>rfl
 | cons c t =>
   simp only[h1,Bool.false_or,List.head?_cons];have:¬(46=c):=by simpa[blM] using h2
   simp[Ne.symm this]
def YL(t:List UInt8)(h1:F7 30 t=true):free t=false:=by unfold free;simp[h1]
def YM(t:List UInt8)(h2:[46].isPrefixOf t=true):free t=false:=by
 unfold free;obtain⟨u,rfl⟩:=bkV.1 h2;simp
def vB(t:List UInt8):[46].isPrefixOf t=true↔t.head?=some 46:=by
 cases t with
 | nil=>simp
 | cons c t=>simp[blM];exact eq_comm
set_option maxHeartbeats 2000000 in
def vH(s:ByteArray)(a:Int)(w:World)(hs:s.size<=6000)(hT:Od w)(h0:0<=a)(ha:a < s.size) :
   Calls Tryz.prog 153 #[.string s,.int .i64 a] w λe w'=>e=.returned (U7 a.toNat (IX ((L s).drop a.toNat)))/\w=w':=by
 obtain⟨k,rfl⟩:=bkP h0;rw[biW];have hk:k < s.size:=by omega
 clear ha;obtain⟨d,hd⟩:∃d,d=Bf 8 ((L s).drop k):=⟨_,rfl⟩;have hdl:k+d<=s.size:=by rw[hd];have:=MW 8 ((L s).drop k);rw[M9] at this;omega
 have HD:=bcI hd;clear hd
 go_enter Tryz.func153,Tryz.ntmps153
 go_wp2_with fail
 refine(SG s _ 8 _ (by omega) hT (by omega) rfl).mono ?_;rintro e w' ⟨rfl,rfl⟩;rw[biW,<- HD.out]
 go_wp2_with fail
 refine(abW s _ _ hs hT (by omega) (by omega)).mono ?_;rintro e w' ⟨rfl,rfl⟩;rw[biW];cases hdt:EN ((L s).drop k) with
 | true =>
   have hl10:k+10<=s.size:=by
     have:=hdt;unfold EN at this;rw[M9] at this;simp at this;omega
   have HF:Hid (IX ((L s).drop k)=if free ((L s).drop (k+10)) then (5,10) else (0,0)):=by
     refine bcI ?_;unfold IX;simp only[hdt,if_true,bjD]
   clear hdt
   go_wp2_with fail
   cases hw:F7 30 ((L s).drop (k+10)) with
   | true =>
     have HW:=bcI hw;clear hw;refine(Jq s _ 30 _ hT (by omega) rfl).mono ?_;rintro e w' ⟨rfl,rfl⟩;rw[show((k:Int)+10).toNat=k+10 from by omega,HW.out]
     go_wp2_with fail
     go_ret2
     refine⟨Fc ?_,rfl⟩;rw[HF.out,YL _ HW.out];rfl
   | false =>
     have HW:=bcI hw;clear hw;refine(Jq s _ 30 _ hT (by omega) rfl).mono ?_;rintro e w' ⟨rfl,rfl⟩;rw[show((k:Int)+10).toNat=k+10 from by omega,HW.out];cases hp:[46].isPrefixOf ((L s).drop (k+10)) with
     | true =>
       have HP:=bcI hp;clear hp
       go_wp2_with fail
       refine(Ib _ _ _).mono ?_;rintro e w' ⟨rfl,rfl⟩;rw[NW,SW,HP.out]
       go_wp2_with fail
       go_ret2
       refine⟨Fc ?_,rfl⟩;rw[HF.out,YM _ HP.out];rfl
     | false =>
       have HP:=bcI hp;clear hp
       go_wp2_with fail
       refine(Ib _ _ _).mono ?_;rintro e w' ⟨rfl,rfl⟩;rw[NW,SW,HP.out]
       go_wp2_with fail
       go_ret2
       refine⟨Fc ?_,rfl⟩;rw[HF.out,qB _ HW.out HP.out];simp[U7]
       try omega
 | false =>
   have HDT:=bcI hdt;clear hdt;by_cases hz:s[k]=48/\1 < d
   · obtain⟨hz0,hd1⟩:=hz
     have hb:((s[k].toNat:Int) == 48)=true:=aeO hz0
     have HF:Hid (IX ((L s).drop k)=(0,0)):=by
       refine bcI ?_;unfold IX;simp only[HDT.out,biT,if_false,<- HD.out,vU s k hk,hz0,hd1,and_self,if_true]
     clear hz0
     go_wp2_with fail
     go_ret2
     refine⟨Fc ?_,rfl⟩;rw[HF.out];rfl
   · have hbb:((s[k].toNat:Int) == 48)=false\/(((s[k].toNat:Int) == 48)=true/\d<=1):=by
       by_cases h48:s[k]=48
       · right;exact⟨aeO h48,by have:¬1 < d:=λh=>hz ⟨h48,h⟩;omega⟩
       · left;exact azD h48
     have HZ:Hid (¬(((L s).drop k).head?=some 48/\1 < d)):=by
       refine bcI ?_;rw[vU s k hk];rintro⟨h1,h2⟩;exact hz ⟨by simpa using h1,h2⟩
     clear hz;cases hp:[46].isPrefixOf ((L s).drop (k+d)) with
     | true =>
       have HP:=bcI hp;clear hp;have HP':Hid ((((L s).drop k).drop d).head?=some 46):=bcI (by rw[bjD];exact(vB _).1 HP.out);by_cases hd10:10 < d
       · have HF:Hid (IX ((L s).drop k)=(0,0)):=by
           refine bcI ?_;unfold IX;simp only[HDT.out,biT,if_false,<- HD.out];rw[if_neg HZ.out,if_pos HP'.out,if_pos (.inl hd10)]
         have hb:=hbb.resolve_right (by omega);clear hbb
         go_wp2_with fail
         refine(Ib _ _ _).mono ?_;rintro e w' ⟨rfl,rfl⟩;rw[NW,SW,HP.out]
         go_wp2_with fail
         go_ret2
         refine⟨Fc ?_,rfl⟩;rw[HF.out];rfl
       · cases h1:F7 8 ((L s).drop (k+d+1)) with
         | false =>
           have HF:Hid (IX ((L s).drop k)=(0,0)):=by
             refine bcI ?_;unfold IX;simp only[HDT.out,biT,if_false,<- HD.out];rw[if_neg HZ.out,if_pos HP'.out,if_pos (.inr (.inl (by rw[bjD,<- blQ];exact h1)))]
           have H1:=bcI h1;clear h1;rcases hbb with hb | ⟨hb,hd1⟩
           all_goals
             go_wp2_with fail
             refine(Ib _ _ _).mono ?_;rintro e w' ⟨rfl,rfl⟩;rw[NW,SW,HP.out]
             go_wp2_with fail
             refine(Jq s _ 8 _ hT (by omega) rfl).mono ?_;rintro e w' ⟨rfl,rfl⟩;rw[show((k:Int)+(d:Int)+1).toNat=k+d+1 from by omega,H1.out]
             go_wp2_with fail
             go_ret2
             refine⟨Fc ?_,rfl⟩;rw[HF.out];rfl
         | true =>
           have H1:=bcI h1;clear h1;cases h2:F7 8 ((L s).drop (k+d+2)) with
           | false =>
             have HF:Hid (IX ((L s).drop k)=(0,0)):=by
               refine bcI ?_;unfold IX;simp only[HDT.out,biT,if_false,<- HD.out];rw[if_neg HZ.out,if_pos HP'.out,if_pos (.inr (.inr (by rw[bjD,<- blQ];exact h2)))]
             have H2:=bcI h2;clear h2;rcases hbb with hb | ⟨hb,hd1⟩
             all_goals
               go_wp2_with fail
               refine(Ib _ _ _).mono ?_;rintro e w' ⟨rfl,rfl⟩;rw[NW,SW,HP.out]
               go_wp2_with fail
               refine(Jq s _ 8 _ hT (by omega) rfl).mono ?_;rintro e w' ⟨rfl,rfl⟩;rw[show((k:Int)+(d:Int)+1).toNat=k+d+1 from by omega,H1.out]
               go_wp2_with fail
               refine(Jq s _ 8 _ hT (by omega) rfl).mono ?_;rintro e w' ⟨rfl,rfl⟩;rw[show((k:Int)+(d:Int)+2).toNat=k+d+2 from by omega,H2.out]
               go_wp2_with fail
               go_ret2
               refine⟨Fc ?_,rfl⟩;rw[HF.out];rfl
           | true =>
             have hsz:k+d+2 < s.size:=aQM 8 s _ h2
             have HF:Hid (IX ((L s).drop k)=if free ((L s).drop (k+d+3)) then (4,d+3) else (0,0)):=by
               refine bcI ?_;unfold IX;simp only[HDT.out,biT,if_false,<- HD.out]
               rw[if_neg HZ.out,if_pos HP'.out,if_neg (by
                 rintro(h | h | h)
                 · omega
                 · rw[bjD,<- blQ] at h;rw[h] at H1;exact absurd H1.out (by simp)
                 · rw[bjD,<- blQ] at h;rw[h] at h2;exact absurd h2 (by simp))]
               rw[bjD,<- blQ]
             have H2:=bcI h2;clear h2;rcases hbb with hb | ⟨hb,hd1⟩
             all_goals
               go_wp2_with fail
               refine(Ib _ _ _).mono ?_;rintro e w' ⟨rfl,rfl⟩;rw[NW,SW,HP.out]
               go_wp2_with fail
               refine(Jq s _ 8 _ hT (by omega) rfl).mono ?_;rintro e w' ⟨rfl,rfl⟩;rw[show((k:Int)+(d:Int)+1).toNat=k+d+1 from by omega,H1.out]
               go_wp2_with fail
               refine(Jq s _ 8 _ hT (by omega) rfl).mono ?_;rintro e w' ⟨rfl,rfl⟩;rw[show((k:Int)+(d:Int)+2).toNat=k+d+2 from by omega,H2.out];clear HP
               go_wp2_with fail
               cases hw:F7 30 ((L s).drop (k+d+3)) with
               | true =>
                 have HW:=bcI hw;clear hw;refine(Jq s _ 30 _ hT (by omega) rfl).mono ?_;rintro e w' ⟨rfl,rfl⟩;rw[show((k:Int)+(d:Int)+3).toNat=k+d+3 from by omega,HW.out]
                 go_wp2_with fail
                 go_ret2
                 refine⟨Fc ?_,rfl⟩;rw[HF.out,YL _ HW.out];rfl
               | false =>
                 have HW:=bcI hw;clear hw;refine(Jq s _ 30 _ hT (by omega) rfl).mono ?_;rintro e w' ⟨rfl,rfl⟩;rw[show((k:Int)+(d:Int)+3).toNat=k+d+3 from by omega,HW.out];cases hp:[46].isPrefixOf ((L s).drop (k+d+3)) with
                 | true =>
                   have HP:=bcI hp;clear hp
                   go_wp2_with fail
                   refine(Ib _ _ _).mono ?_;rintro e w' ⟨rfl,rfl⟩;rw[NW,SW,HP.out]
                   go_wp2_with fail
                   go_ret2
                   refine⟨Fc ?_,rfl⟩;rw[HF.out,YM _ HP.out];rfl
                 | false =>
                   have HP:=bcI hp;clear hp
                   go_wp2_with fail
                   refine(Ib _ _ _).mono ?_;rintro e w' ⟨rfl,rfl⟩;rw[NW,SW,HP.out]
                   go_wp2_with fail
                   go_ret2
                   refine⟨Fc ?_,rfl⟩;rw[HF.out,qB _ HW.out HP.out];simp[U7]
                   try omega
     | false =>
       have HP:=bcI hp;clear hp;have HP':Hid (¬((((L s).drop k).drop d).head?=some 46)):=bcI (by rw[bjD,<- vB,HP.out];simp);by_cases hd12:12 < d
       · have HF:Hid (IX ((L s).drop k)=(0,0)):=by
           refine bcI ?_;unfold IX;simp only[HDT.out,biT,if_false,<- HD.out];rw[if_neg HZ.out,if_neg HP'.out,if_pos hd12]
         have hb:=hbb.resolve_right (by omega);clear hbb
         go_wp2_with fail
         refine(Ib _ _ _).mono ?_;rintro e w' ⟨rfl,rfl⟩;rw[NW,SW,HP.out]
         go_wp2_with fail
         go_ret2
         refine⟨Fc ?_,rfl⟩;rw[HF.out];rfl
       · have HF:Hid (IX ((L s).drop k)=if free ((L s).drop (k+d)) then (3,d) else (0,0)):=by
           refine bcI ?_;unfold IX;simp only[HDT.out,biT,if_false,<- HD.out];rw[if_neg HZ.out,if_neg HP'.out,if_neg hd12,bjD]
         rcases hbb with hb | ⟨hb,hd1⟩
         all_goals
           go_wp2_with fail
           refine(Ib _ _ _).mono ?_;rintro e w' ⟨rfl,rfl⟩;rw[NW,SW,HP.out];clear HP
           go_wp2_with fail
           cases hw:F7 30 ((L s).drop (k+d)) with
           | true =>
             have HW:=bcI hw;clear hw;refine(Jq s _ 30 _ hT (by omega) rfl).mono ?_;rintro e w' ⟨rfl,rfl⟩;rw[show((k:Int)+(d:Int)).toNat=k+d from by omega,HW.out]
             go_wp2_with fail
             go_ret2
             refine⟨Fc ?_,rfl⟩;rw[HF.out,YL _ HW.out];rfl
           | false =>
             have HW:=bcI hw;clear hw;refine(Jq s _ 30 _ hT (by omega) rfl).mono ?_;rintro e w' ⟨rfl,rfl⟩;rw[show((k:Int)+(d:Int)).toNat=k+d from by omega,HW.out];cases hp:[46].isPrefixOf ((L s).drop (k+d)) with
             | true =>
               have HP:=bcI hp;clear hp
               go_wp2_with fail
               refine(Ib _ _ _).mono ?_;rintro e w' ⟨rfl,rfl⟩;rw[NW,SW,HP.out]
               go_wp2_with fail
               go_ret2
               refine⟨Fc ?_,rfl⟩;rw[HF.out,YM _ HP.out];rfl
             | false =>
               have HP:=bcI hp;clear hp
               go_wp2_with fail
               refine(Ib _ _ _).mono ?_;rintro e w' ⟨rfl,rfl⟩;rw[NW,SW,HP.out]
               go_wp2_with fail
               go_ret2
               refine⟨Fc ?_,rfl⟩;rw[HF.out,qB _ HW.out HP.out];simp[U7]
               try omega
end Go.Proofs.YtpbkhogolfegfaaGreatDoor
namespace Go.Proofs.YtpbkhogolfegfaaGreatDoor
open Go.RowKit LexS
def aEY(w:World):(bkO 134 (.agg IC) (.int .i64 ((0:Nat):Int))).run Tryz.prog w=.ok (.string ⟨(Fw.getD 0 []).toArray⟩) w:=by kernel_rfl
def aEZ(w:World):(bkO 134 (.agg IC) (.int .i64 ((1:Nat):Int))).run Tryz.prog w=.ok (.string ⟨(Fw.getD 1 []).toArray⟩) w:=by kernel_rfl
def aFA(w:World):(bkO 134 (.agg IC) (.int .i64 ((2:Nat):Int))).run Tryz.prog w=.ok (.string ⟨(Fw.getD 2 []).toArray⟩) w:=by kernel_rfl
def aFB(w:World):(bkO 134 (.agg IC) (.int .i64 ((3:Nat):Int))).run Tryz.prog w=.ok (.string ⟨(Fw.getD 3 []).toArray⟩) w:=by kernel_rfl
def aFC(w:World):(bkO 134 (.agg IC) (.int .i64 ((4:Nat):Int))).run Tryz.prog w=.ok (.string ⟨(Fw.getD 4 []).toArray⟩) w:=by kernel_rfl
def aFD(w:World):(bkO 134 (.agg IC) (.int .i64 ((5:Nat):Int))).run Tryz.prog w=.ok (.string ⟨(Fw.getD 5 []).toArray⟩) w:=by kernel_rfl
def aFE(w:World):(bkO 134 (.agg IC) (.int .i64 ((6:Nat):Int))).run Tryz.prog w=.ok (.string ⟨(Fw.getD 6 []).toArray⟩) w:=by kernel_rfl
def aFF(w:World):(bkO 134 (.agg IC) (.int .i64 ((7:Nat):Int))).run Tryz.prog w=.ok (.string ⟨(Fw.getD 7 []).toArray⟩) w:=by kernel_rfl
def aFG(w:World):(bkO 134 (.agg IC) (.int .i64 ((8:Nat):Int))).run Tryz.prog w=.ok (.string ⟨(Fw.getD 8 []).toArray⟩) w:=by kernel_rfl
def aFH(w:World):(bkO 134 (.agg IC) (.int .i64 ((9:Nat):Int))).run Tryz.prog w=.ok (.string ⟨(Fw.getD 9 []).toArray⟩) w:=by kernel_rfl
def awU(w:World):(bkO 134 (.agg IC) (.int .i64 ((10:Nat):Int))).run Tryz.prog w=.ok (.string ⟨(Fw.getD 10 []).toArray⟩) w:=by kernel_rfl
def awV(w:World):(bkO 134 (.agg IC) (.int .i64 ((11:Nat):Int))).run Tryz.prog w=.ok (.string ⟨(Fw.getD 11 []).toArray⟩) w:=by kernel_rfl
def awW(w:World):(bkO 134 (.agg IC) (.int .i64 ((12:Nat):Int))).run Tryz.prog w=.ok (.string ⟨(Fw.getD 12 []).toArray⟩) w:=by kernel_rfl
def awX(w:World):(bkO 134 (.agg IC) (.int .i64 ((13:Nat):Int))).run Tryz.prog w=.ok (.string ⟨(Fw.getD 13 []).toArray⟩) w:=by kernel_rfl
def awY(w:World):(bkO 134 (.agg IC) (.int .i64 ((14:Nat):Int))).run Tryz.prog w=.ok (.string ⟨(Fw.getD 14 []).toArray⟩) w:=by kernel_rfl
def awZ(w:World):(bkO 134 (.agg IC) (.int .i64 ((15:Nat):Int))).run Tryz.prog w=.ok (.string ⟨(Fw.getD 15 []).toArray⟩) w:=by kernel_rfl
def axA(w:World):(bkO 134 (.agg IC) (.int .i64 ((16:Nat):Int))).run Tryz.prog w=.ok (.string ⟨(Fw.getD 16 []).toArray⟩) w:=by kernel_rfl
def amA(i:Nat)(hi:i < 17)(w:World):(bkO 134 (.agg IC) (.int .i64 (i:Int))).run Tryz.prog w=.ok (.string ⟨(Fw.getD i []).toArray⟩) w:=by
 match i,hi with
 | 0,_=>exact aEY w
 | 1,_=>exact aEZ w
 | 2,_=>exact aFA w
 | 3,_=>exact aFB w
 | 4,_=>exact aFC w
 | 5,_=>exact aFD w
 | 6,_=>exact aFE w
 | 7,_=>exact aFF w
 | 8,_=>exact aFG w
 | 9,_=>exact aFH w
 | 10,_=>exact awU w
 | 11,_=>exact awV w
 | 12,_=>exact awW w
 | 13,_=>exact awX w
 | 14,_=>exact awY w
 | 15,_=>exact awZ w
 | 16,_=>exact axA w
 | n+17,h=>omega
def alZ(t:List UInt8)(i:Nat)(hi:i < 17):Nv t (Fw.drop i)=if (Fw.getD i []).isPrefixOf t then (6,(Fw.getD i []).length) else Nv t (Fw.drop (i+1)):=by
 have:Fw.drop i=Fw.getD i []::Fw.drop (i+1):=by
   rw[List.drop_eq_getElem_cons (by simpa[Fw] using hi)]
   simp[List.getD,show i < Fw.length from by simpa[Fw] using hi]
 rw[this,Nv]
def aFI(i:Nat):(Fw.getD i []).length<=2:=by
 by_cases h:i < 17
 · have:∀j:Fin 17,(Fw.getD j.val []).length<=2:=by decide
   exact this ⟨i,h⟩
 · have:Fw.length<=i:=by simp[Fw];omega
   simp[List.getD,this]
set_option maxHeartbeats 2000000 in
def xU(s:ByteArray)(a:Int)(w:World)(hs:s.size<=6000)(hT:Od w)(h0:0<=a)(ha:a < s.size) :
   Calls Tryz.prog 117 #[.string s,.int .i64 a] w λe w'=>e=.returned (U7 a.toNat (Bt ((L s).drop a.toNat)))/\w=w':=by
 obtain⟨k,rfl⟩:=bkP h0;rw[biW];have hk:k < s.size:=by omega
 clear ha;obtain⟨d,hd⟩:∃d,d=Bf 30 ((L s).drop k):=⟨_,rfl⟩;have hdl:k+d<=s.size:=by rw[hd];have:=MW 30 ((L s).drop k);rw[M9] at this;omega
 have HD:=bcI hd;clear hd
 go_enter Tryz.func117,Tryz.ntmps117
 go_wp2_with fail
 refine(SG s _ 30 _ (by omega) hT (by omega) rfl).mono ?_;rintro e w' ⟨rfl,rfl⟩;rw[biW,<- HD.out]
 go_wp2_with fail
 refine(Jq s _ 2 _ hT (by omega) rfl).mono ?_;rintro e w' ⟨rfl,rfl⟩;rw[biW];cases h2:F7 2 ((L s).drop k) with
 | true =>
   have H2:=bcI h2;clear h2;by_cases hd16:d<=16
   · obtain⟨d2,hd2⟩:∃d2,d2=Bf 26 ((L s).drop k):=⟨_,rfl⟩
     have HD2:=bcI hd2;clear hd2;by_cases he:d2=d
     · have HF:Hid (Bt ((L s).drop k)=(1,d)):=by
         refine bcI ?_;unfold Bt;rw[H2.out,if_pos rfl,if_pos ⟨by rw[<- HD.out];exact hd16,by rw[<- HD.out,<- HD2.out];exact he⟩,<- HD.out]
       have hb:(((k:Int)+(d2:Int)) == ((k:Int)+(d:Int)))=true:=by rw[beq_iff_eq];omega
       clear he
       go_wp2_with fail
       refine(SG s _ 26 _ (by omega) hT (by omega) rfl).mono ?_;rintro e w' ⟨rfl,rfl⟩;rw[biW,<- HD2.out]
       go_wp2_with fail
       go_ret2
       refine⟨Fc ?_,rfl⟩;rw[HF.out];rfl
     · have HF:Hid (Bt ((L s).drop k)=(0,0)):=by
         refine bcI ?_;unfold Bt;rw[H2.out,if_pos rfl,if_neg (by rw[<- HD.out,<- HD2.out];exact λh=>he h.2)]
       have hb:(((k:Int)+(d2:Int)) == ((k:Int)+(d:Int)))=false:=by rw[beq_eq_false_iff_ne];omega
       clear he
       go_wp2_with fail
       refine(SG s _ 26 _ (by omega) hT (by omega) rfl).mono ?_;rintro e w' ⟨rfl,rfl⟩;rw[biW,<- HD2.out]
       go_wp2_with fail
       go_ret2
       refine⟨Fc ?_,rfl⟩;rw[HF.out];rfl
   · have HF:Hid (Bt ((L s).drop k)=(0,0)):=by
       refine bcI ?_;unfold Bt;rw[H2.out,if_pos rfl,if_neg (by rw[<- HD.out];exact λh=>hd16 h.1)]
     go_wp2_with fail
     go_ret2
     refine⟨Fc ?_,rfl⟩;rw[HF.out];rfl
 | false =>
   have H2:=bcI h2;clear h2
   go_wp2_with fail
   refine(Jq s _ 4 _ hT (by omega) rfl).mono ?_;rintro e w' ⟨rfl,rfl⟩;rw[biW];cases h4:F7 4 ((L s).drop k) with
   | true =>
     have H4:=bcI h4;clear h4;by_cases hd3:d=3
     · have hb3:(((k:Int)+(d:Int) - (k:Int)) == 3)=true:=by rw[beq_iff_eq];omega
       obtain⟨d2,hd2⟩:∃d2,d2=Bf 4 ((L s).drop k):=⟨_,rfl⟩;have HD2:=bcI hd2;clear hd2;have HD3:=bcI hd3;by_cases he:d2=d
       · have HF:Hid (Bt ((L s).drop k)=(2,d)):=by
           refine bcI ?_;unfold Bt;rw[H2.out,H4.out,if_neg (by simp),if_pos rfl,if_pos ⟨by rw[<- HD.out];exact hd3,by rw[<- HD.out,<- HD2.out];exact he⟩,<- HD.out]
         have hb:(((k:Int)+(d2:Int)) == ((k:Int)+(d:Int)))=true:=by rw[beq_iff_eq];omega
         clear he hd3
         go_wp2_with fail
         refine(SG s _ 4 _ (by omega) hT (by omega) rfl).mono ?_;rintro e w' ⟨rfl,rfl⟩;rw[biW,<- HD2.out]
         go_wp2_with fail
         go_ret2
         refine⟨Fc ?_,rfl⟩;rw[HF.out];rfl
       · have HF:Hid (Bt ((L s).drop k)=(0,0)):=by
           refine bcI ?_;unfold Bt;rw[H2.out,H4.out,if_neg (by simp),if_pos rfl,if_neg (by rw[<- HD.out,<- HD2.out];exact λh=>he h.2)]
         have hb:(((k:Int)+(d2:Int)) == ((k:Int)+(d:Int)))=false:=by rw[beq_eq_false_iff_ne];omega
         clear he hd3
         go_wp2_with fail
         refine(SG s _ 4 _ (by omega) hT (by omega) rfl).mono ?_;rintro e w' ⟨rfl,rfl⟩;rw[biW,<- HD2.out]
         go_wp2_with fail
         go_ret2
         refine⟨Fc ?_,rfl⟩;rw[HF.out];rfl
     · have HF:Hid (Bt ((L s).drop k)=(0,0)):=by
         refine bcI ?_;unfold Bt;rw[H2.out,H4.out,if_neg (by simp),if_pos rfl,if_neg (by rw[<- HD.out];exact λh=>hd3 h.1)]
       have hb3:(((k:Int)+(d:Int) - (k:Int)) == 3)=false:=by rw[beq_eq_false_iff_ne];omega
       clear hd3
       go_wp2_with fail
       go_ret2
       refine⟨Fc ?_,rfl⟩;rw[HF.out];rfl
   | false =>
     have H4:=bcI h4;clear h4
     go_wp2_with fail
     refine(Jq s _ 8 _ hT (by omega) rfl).mono ?_;rintro e w' ⟨rfl,rfl⟩;rw[biW];cases h8:F7 8 ((L s).drop k) with
     | true =>
       have HF:Hid (Bt ((L s).drop k)=IX ((L s).drop k)):=by
         refine bcI ?_;unfold Bt;rw[H2.out,H4.out,h8,if_neg (by simp),if_neg (by simp),if_pos rfl]
       clear h8
       go_wp2_with fail
       refine(vH s _ _ hs hT (by omega) (by omega)).mono ?_;rintro e w' ⟨rfl,rfl⟩;rw[biW];by_cases hz:(IX ((L s).drop k)).1=0
       · have HO:Hid (U7 k (IX ((L s).drop k))=.tuple #[.int .i64 0,.int .i64 0]):=bcI (by unfold U7;rw[if_pos hz])
         clear hz;rw[HO.out]
         go_wp2_with fail
         go_ret2
         exact⟨by rw[HF.out,HO.out];rfl,rfl⟩
       · obtain⟨q,n,HO⟩:∃q n:Int,Hid (U7 k (IX ((L s).drop k))=.tuple #[.int .i64 q,.int .i64 n]):=⟨_,_,bcI (by unfold U7;rw[if_neg hz])⟩
         clear hz;rw[HO.out]
         go_wp2_with fail
         go_ret2
         exact⟨by rw[HF.out,HO.out];rfl,rfl⟩
     | false =>
       have HF:Hid (Bt ((L s).drop k)=Nv ((L s).drop k) (Fw.drop 0)):=by
         refine bcI ?_;unfold Bt;rw[H2.out,H4.out,h8,if_neg (by simp),if_neg (by simp),if_neg (by simp),List.drop_zero]
       clear h8;have hg1:=hT.2;have HG:=bcI hg1;clear hg1
       go_wp2_with (refine Yf rfl 134 _ rfl 0 rfl _ _ HG.out Tryz.underlying134 rfl (by kernel_rfl) ?_)
       go_loopg [8,54] 17 (λg _ x wx=>∃i:Nat,w=wx/\i<=17/\g=17 - i/\Hid (Bt ((L s).drop k)=Nv ((L s).drop k) (Fw.drop i))/\x=.int .i64 i)
       case atStart=>exact⟨0,rfl,by omega,rfl,HF,rfl⟩
       case round =>
         obtain⟨i,rfl,hi,rfl,HI,rfl⟩:=hrel;by_cases hi17:i < 17
         · have hix:=amA i hi17
           have HS:=bcI (alZ ((L s).drop k) i hi17);have hsl:=aFI i;cases hp:(Fw.getD i []).isPrefixOf ((L s).drop k) with
           | true =>
             have hlen:k+(Fw.getD i []).length<=s.size:=by
               have:=(bkV.1 hp).length_le;rw[M9] at this;omega
             have HP:=bcI hp;clear hp;generalize hy:Fw.getD i []=y at *;clear hy
             go_wp2_with fail
             refine(Ib _ _ _).mono ?_;rintro e w' ⟨rfl,rfl⟩;rw[NW];rw[show L (⟨y.toArray⟩:ByteArray)=y from by simp,HP.out];clear hix
             go_wp2_with fail
             go_ret2
             refine⟨Fc ?_,rfl⟩;rw[HI.out,HS.out,HP.out];simp[U7]
           | false =>
             have HP:=bcI hp;clear hp;generalize hy:Fw.getD i []=y at *;clear hy
             go_wp2_with fail
             refine(Ib _ _ _).mono ?_;rintro e w' ⟨rfl,rfl⟩;rw[NW];rw[show L (⟨y.toArray⟩:ByteArray)=y from by simp,HP.out];clear hix
             go_wp2_with fail
             go_roundg (17 - (i+1))
             case measure=>omega
             case rel =>
               refine⟨i+1,rfl,by omega,rfl,bcI ?_,by go_num⟩;rw[HI.out,HS.out,HP.out];rfl
         · have hge:17<=i:=by omega
           go_wp2_with fail
           go_ret2
           refine⟨Fc ?_,rfl⟩;rw[HI.out,List.drop_eq_nil_of_le (show Fw.length<=i from hge)];rfl
end Go.Proofs.YtpbkhogolfegfaaGreatDoor
