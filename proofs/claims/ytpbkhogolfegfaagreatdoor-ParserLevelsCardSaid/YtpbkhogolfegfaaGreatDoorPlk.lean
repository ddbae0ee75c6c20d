/- Part of a proof: see the last text. -/
import Derived.Test.YtpbkhogolfegfaaGreatDoorPlj
import Derived.Lib.Strings
import Derived.Lib.IndexBytes
import Derived.Deep.LoopGhost
set_option linter.unusedVariables false
set_option linter.unusedSimpArgs false
set_option linter.defProp false
noncomputable section
namespace Go.Proofs.YtpbkhogolfegfaaGreatDoor
open Go.RowKit LexS
def PK{a b:Bool}(h:a=b):Ending.returned (.bool a)=.returned (.bool b):=by rw[h]
def uK{k:IntKind}{a b:Int}(h:a=b):Ending.returned (.int k a)=.returned (.int k b):=by rw[h]
def MA(s:ByteArray)(k:Nat):L (s.extract k s.size)=(L s).drop k:=Lib.extract_to_end s k
def rD:L { data:=#[47,47] }=[47,47]:=rfl
set_option maxHeartbeats 400000 in
def Ib(a b:ByteArray)(w:World) :
   Calls Tryz.prog 151 #[.string a,.string b] w λe w'=>e=.returned (.bool ((L b).isPrefixOf (L a)))/\w=w':=by
 by_cases h:b.size<=a.size
 · go_enter Tryz.func151,Tryz.ntmps151
   go_wp2
   go_ret
   refine⟨PK (a:=((a.extract 0 b.size).toList == b.toList)) ?_,rfl⟩;rw[ByteArray.toList_eq,ByteArray.toList_eq,Lib.extract_data,Wx];simp
 · go_enter Tryz.func151,Tryz.ntmps151
   go_wp2
   go_ret
   refine⟨PK (a:=false) ?_,rfl⟩;symm;rw[Bool.eq_false_iff];intro h2;have:=(List.isPrefixOf_iff_prefix.1 h2).length_le;simp at this;omega
set_option maxHeartbeats 1000000 in
def kY(s:ByteArray)(a:Int)(w:World)(hs:s.size<=9223372036854775806)(hT:ML w)(h0:0<=a)(ha:a<=s.size) :
   Calls Tryz.prog 116 #[.string s,.int .i64 a] w λe w'=>e=.returned (.int .i64 (a+Fk ((L s).drop a.toNat):Int))/\w=w':=by
 obtain⟨k0,rfl⟩:=Int.eq_ofNat_of_zero_le h0;rw[Int.toNat_natCast];have hk0:k0<=s.size:=by omega
 clear ha
 go_enter Tryz.func116,Tryz.ntmps116
 go_wp2_with fail
 go_step3
 go_wp2_with fail
 go_step3
 go_wp2_with fail
 go_loopg [1] (s.size - k0) (λg i wx=>∃k:Nat,w=wx/\k<=s.size/\g=s.size - k/\Hid (k+Fk ((L s).drop k)=k0+Fk ((L s).drop k0))/\i=.int .i64 k)
 case atStart=>exact⟨k0,rfl,hk0,rfl,Lib.hid rfl,rfl⟩
 case round =>
   obtain⟨k,rfl,hk,rfl,HK,rfl⟩:=hrel
   have hk1:k+BE 1 ((L s).drop k)<=s.size:=by
     have:=Sh 1 ((L s).drop k);simp at this;omega
   obtain⟨k1,hk1e⟩:∃k1,k1=k+BE 1 ((L s).drop k):=⟨_,rfl⟩
   have HK1:Hid (k1+Fk ((L s).drop k1)=k0+Fk ((L s).drop k0)):=by
     refine Lib.hid ?_;have h1:=HK.out;have h2:=wW ((L s).drop k);rw[List.drop_drop] at h2;unfold Fk at h1 ⊢;rw[hk1e];omega
   have hn1:I1 1 ((L s).drop k1)=false:=by
     have:=yY 1 ((L s).drop k);rw[List.drop_drop] at this;rw[hk1e];exact this
   have HN1:=Lib.hid hn1;clear hn1;have hk1':k1<=s.size:=by omega
   have hkk:k<=k1:=by omega
   have HE:=Lib.hid hk1e;clear hk1e hk1
   go_wp2_with fail
   refine(Qm s _ 1 _ (by omega) hT (by omega) rfl).mono ?_;rintro e w' ⟨rfl,rfl⟩;rw[Int.toNat_natCast];rw[show((k:Int)+(BE 1 ((L s).drop k):Int))=(k1:Int) from by rw[HE.out];omega];clear HE;cases hp:[47,47].isPrefixOf ((L s).drop k1) with
   | false =>
     have HP:=Lib.hid hp;clear hp
     go_wp2_with fail
     refine(Ib _ _ _).mono ?_;rintro e w' ⟨rfl,rfl⟩;rw[MA,rD,HP.out]
     go_wp2_with fail
     rw[Exit.noGoto_ret]
     go_ret
     refine⟨uK (a:=(k1:Int)) ?_,rfl⟩;have h1:=HK1.out;have h2:=adB _ HN1.out HP.out;unfold Fk at h1 ⊢;omega
   | true =>
     have HP:=Lib.hid hp;clear hp
     go_wp2_with fail
     refine(Ib _ _ _).mono ?_;rintro e w' ⟨rfl,rfl⟩;rw[MA,rD,HP.out]
     have hlen:k1+2<=s.size:=by
       have:=(List.isPrefixOf_iff_prefix.1 HP.out).length_le;simp at this;omega
     have HC:Hid (k1+JP true ((L s).drop k1)=k0+Fk ((L s).drop k0)):=by
       refine Lib.hid ?_;have h1:=HK1.out;have h2:=iE _ HP.out;unfold Fk at h1 ⊢;omega
     have hne:Hid (s[k1]≠10):=by
       refine Lib.hid ?_;have h1:=HP.out;rw[P6 s k1 (by omega)] at h1;simp[List.isPrefixOf] at h1;rw[<- h1.1];decide
     clear HK1 HN1 HP
     go_wp2_with fail
     go_loopg [1] (s.size - k1) (λg i wx=>∃j:Nat,w=wx/\k1<=j/\j<=s.size/\g=s.size - j/\Hid (j=k1\/k1 < j)/\Hid (j+JP true ((L s).drop j)=k0+Fk ((L s).drop k0))/\i=.int .i64 j)
     case atStart=>exact⟨k1,rfl,Nat.le_refl _,by omega,rfl,Lib.hid (.inl rfl),HC,rfl⟩
     case round =>
       obtain⟨j,rfl,hj1,hj2,rfl,HJ,HR,rfl⟩:=hrel;by_cases hlt:j < s.size
       · by_cases hnl:s[j]=10
         · have hb:((s[j].toNat:Int) == 10)=true:=by rw[hnl];rfl
           have hjk:k1 < j:=by
             rcases HJ.out with h | h
             · subst h;exact absurd hnl hne.out
             · exact h
           have HNL:=Lib.hid hnl;clear hnl
           go_wp2_with fail
           go_roundg (s.size - j)
           case measure=>omega
           case rel =>
             refine⟨j,rfl,by omega,rfl,Lib.hid ?_,rfl⟩;have h1:=HR.out;rw[P6 s j hlt,HNL.out,adA,<- HNL.out,<- P6 s j hlt] at h1;exact h1
         · have hb:((s[j].toNat:Int) == 10)=false:=by
             rw[beq_eq_false_iff_ne];intro h;apply hnl;exact UInt8.toNat_inj.1 (by have:(10:UInt8).toNat=10:=rfl;omega)
           have HNL:=Lib.hid hnl;clear hnl
           go_wp2_with fail
           go_roundg (s.size - (j+1))
           case measure=>omega
           case rel =>
             refine⟨j+1,rfl,by omega,by omega,rfl,Lib.hid (.inr (by omega)),Lib.hid ?_,by go_num⟩;have h1:=HR.out;rw[P6 s j hlt,awQ _ _ HNL.out] at h1;omega
       · have hge:s.size<=j:=by omega
         go_wp2_with fail
         rw[Exit.noGoto_ret]
         go_ret
         refine⟨uK (a:=(j:Int)) ?_,rfl⟩;have h1:=HR.out;rw[XU s j hge] at h1;simp only[JP] at h1;omega
end Go.Proofs.YtpbkhogolfegfaaGreatDoor
namespace Go.Proofs.YtpbkhogolfegfaaGreatDoor
open Go.RowKit LexS
def QG:L { data:=#[46] }=[46]:=rfl
def rK{c d:UInt8}(h:c=d):((c.toNat:Int) == (d.toNat:Int))=true:=by rw[h];simp
def alW{c d:UInt8}(h:c≠d):((c.toNat:Int) == (d.toNat:Int))=false:=by
 rw[beq_eq_false_iff_ne];intro e;exact h (UInt8.toNat_inj.1 (by omega))
def abG{c d:UInt8}(h:c≠d):((c.toNat:Int) != (d.toNat:Int))=true:=by
 rw[bne_iff_ne];intro e;exact h (UInt8.toNat_inj.1 (by omega))
def abF{c d:UInt8}(h:c=d):((c.toNat:Int) != (d.toNat:Int))=false:=by rw[h];simp
def avW(s:ByteArray)(k i:Nat)(h:k+i < s.size):((L s).drop k)[i]?=some (s[k+i]):=by
 rw[List.getElem?_drop,List.getElem?_eq_getElem (by simpa using h)];rfl
def iP(s:ByteArray)(k:Nat)(h:k < s.size):((L s).drop k).head?=some (s[k]):=by
 rw[P6 s k h];rfl
def L0(s:ByteArray)(k:Nat):((L s).drop k).length=s.size - k:=by simp
def acB(t:List UInt8)(hl:10<=t.length)(h:∀j,j < 10->Ju t j=true):GI t=true:=by
 unfold GI;simp only[hl,decide_true,Bool.true_and,List.all_eq_true,List.mem_range];exact h
def rP(t:List UInt8)(i:Nat)(hi:i < 10)(h:Ju t i=false):GI t=false:=by
 unfold GI;rw[Bool.and_eq_false_iff];right;rw[List.all_eq_false];exact⟨i,by simpa using hi,by simp[h]⟩
set_option maxHeartbeats 1000000 in
def oT(s:ByteArray)(a:Int)(w:World)(hs:s.size<=6000)(hT:ML w)(h0:0<=a)(ha:a<=s.size) :
   Calls Tryz.prog 171 #[.string s,.int .i64 a] w λe w'=>e=.returned (.bool (GI ((L s).drop a.toNat)))/\w=w':=by
 obtain⟨k,rfl⟩:=Int.eq_ofNat_of_zero_le h0;rw[Int.toNat_natCast];by_cases hl:s.size < k+10
 · go_enter Tryz.func171,Tryz.ntmps171
   go_wp2_with fail
   go_ret
   refine⟨PK (a:=false) ?_,rfl⟩;unfold GI;rw[L0];simp;omega
 · have hl10:k+10<=s.size:=by omega
   clear hl
   go_enter Tryz.func171,Tryz.ntmps171
   go_wp2_with fail
   go_loopg [11] 10 (λg x wx=>∃i:Nat,w=wx/\i<=10/\g=10 - i/\Hid (∀j,j < i->Ju ((L s).drop k) j=true)/\x=.int .i64 i)
   case atStart=>exact⟨0,rfl,by omega,rfl,Lib.hid (by omega),rfl⟩
   case round =>
     obtain⟨i,rfl,hi,rfl,HI,rfl⟩:=hrel;by_cases hi10:i < 10
     · by_cases h47:i=4\/i=7
       · have hd:Hid (Ju ((L s).drop k) i=(some s[k+i] == some 45)):=by
           refine Lib.hid ?_;unfold Ju;rw[if_pos h47,avW s k i (by omega)]
         have hsel:((i:Int) == 4)=true\/(((i:Int) == 4)=false/\((i:Int) == 7)=true):=by
           rcases h47 with rfl | rfl
           · left;rfl
           · right;exact⟨rfl,rfl⟩
         clear h47;by_cases hm:s[k+i]=45
         · have hb:((s[k+i].toNat:Int) != 45)=false:=abF hm
           have HM:=Lib.hid hm;clear hm;rcases hsel with h4 | ⟨h4,h7⟩
           all_goals
             go_wp2_with fail
             go_roundg (10 - (i+1))
             case measure=>omega
             case rel =>
               refine⟨i+1,rfl,by omega,rfl,Lib.hid ?_,by go_num⟩;intro j hj;by_cases hji:j=i
               · subst hji;rw[hd.out,HM.out];rfl
               · exact HI.out j (by omega)
         · have hb:((s[k+i].toNat:Int) != 45)=true:=abG hm
           have HM:=Lib.hid hm;clear hm;rcases hsel with h4 | ⟨h4,h7⟩
           all_goals
             go_wp2_with fail
             go_ret
             refine⟨PK (a:=false) ?_,rfl⟩;symm;refine rP _ i hi10 ?_;rw[hd.out];simpa using HM.out
       · have hd:Hid (Ju ((L s).drop k) i=I1 8 ((L s).drop (k+i))):=by
           refine Lib.hid ?_;unfold Ju;rw[if_neg h47,List.drop_drop]
         have h4:((i:Int) == 4)=false:=by rw[beq_eq_false_iff_ne];omega
         have h7:((i:Int) == 7)=false:=by rw[beq_eq_false_iff_ne];omega
         clear h47;cases hb:I1 8 ((L s).drop (k+i)) with
         | true =>
           have HB:=Lib.hid hb;clear hb
           go_wp2_with fail
           refine(I3 s _ 8 _ hT (by omega) rfl).mono ?_;rintro e w' ⟨rfl,rfl⟩;rw[show((k:Int)+(i:Int)).toNat=k+i from by omega,HB.out]
           go_wp2_with fail
           go_roundg (10 - (i+1))
           case measure=>omega
           case rel =>
             refine⟨i+1,rfl,by omega,rfl,Lib.hid ?_,by go_num⟩;intro j hj;by_cases hji:j=i
             · subst hji;rw[hd.out,HB.out]
             · exact HI.out j (by omega)
         | false =>
           have HB:=Lib.hid hb;clear hb
           go_wp2_with fail
           refine(I3 s _ 8 _ hT (by omega) rfl).mono ?_;rintro e w' ⟨rfl,rfl⟩;rw[show((k:Int)+(i:Int)).toNat=k+i from by omega,HB.out]
           go_wp2_with fail
           go_ret
           refine⟨PK (a:=false) ?_,rfl⟩;symm;refine rP _ i hi10 ?_;rw[hd.out,HB.out]
     · have hge:10<=i:=by omega
       go_wp2_with fail
       go_ret
       refine⟨PK (a:=true) ?_,rfl⟩;symm;refine acB _ (by rw[L0];omega) ?_;intro j hj;exact HI.out j (by omega)
def SI(k:Nat)(r:Nat×Nat):Value:=if r.1=0 then .tuple #[.int .i64 0,.int .i64 0] else .tuple #[.int .i64 r.1,.int .i64 ((k+r.2:Nat):Int)]
def Ff{k:Nat}{r:Nat×Nat}{v:Value}(h:v=SI k r):Ending.returned v=.returned (SI k r):=by rw[h]
def ayH(m:Nat)(s:ByteArray)(k:Nat)(h:I1 m ((L s).drop k)=true):k < s.size:=(kU m s k h).2
def cM(t:List UInt8)(h1:I1 30 t=false)(h2:[46].isPrefixOf t=false):free t=true:=by
 unfold free;cases t with
 | nil=>rfl
 | cons c t =>
   simp only[h1,Bool.false_or,List.head?_cons];have:¬(46=c):=by simpa[List.isPrefixOf] using h2
   simp[Ne.symm this]
def VC(t:List UInt8)(h1:I1 30 t=true):free t=false:=by unfold free;simp[h1]
def VD(t:List UInt8)(h2:[46].isPrefixOf t=true):free t=false:=by
 unfold free;obtain⟨u,rfl⟩:=List.isPrefixOf_iff_prefix.1 h2;simp
def gW(t:List UInt8):[46].isPrefixOf t=true↔t.head?=some 46:=by
 cases t with
 | nil=>simp
 | cons c t=>simp[List.isPrefixOf];exact eq_comm
set_option maxHeartbeats 2000000 in
def hZ(s:ByteArray)(a:Int)(w:World)(hs:s.size<=6000)(hT:ML w)(h0:0<=a)(ha:a < s.size) :
   Calls Tryz.prog 153 #[.string s,.int .i64 a] w λe w'=>e=.returned (SI a.toNat (IU ((L s).drop a.toNat)))/\w=w':=by
 obtain⟨k,rfl⟩:=Int.eq_ofNat_of_zero_le h0;rw[Int.toNat_natCast];have hk:k < s.size:=by omega
 clear ha;obtain⟨d,hd⟩:∃d,d=BE 8 ((L s).drop k):=⟨_,rfl⟩;have hdl:k+d<=s.size:=by rw[hd];have:=Sh 8 ((L s).drop k);rw[L0] at this;omega
 have HD:=Lib.hid hd;clear hd
 go_enter Tryz.func153,Tryz.ntmps153
 go_wp2_with fail
 refine(Qm s _ 8 _ (by omega) hT (by omega) rfl).mono ?_;rintro e w' ⟨rfl,rfl⟩;rw[Int.toNat_natCast,<- HD.out]
 go_wp2_with fail
 refine(oT s _ _ hs hT (by omega) (by omega)).mono ?_;rintro e w' ⟨rfl,rfl⟩;rw[Int.toNat_natCast];cases hdt:GI ((L s).drop k) with
 | true =>
   have hl10:k+10<=s.size:=by
     have:=hdt;unfold GI at this;rw[L0] at this;simp at this;omega
   have HF:Hid (IU ((L s).drop k)=if free ((L s).drop (k+10)) then (5,10) else (0,0)):=by
     refine Lib.hid ?_;unfold IU;simp only[hdt,if_true,List.drop_drop]
   clear hdt
   go_wp2_with fail
   cases hw:I1 30 ((L s).drop (k+10)) with
   | true =>
     have HW:=Lib.hid hw;clear hw;refine(I3 s _ 30 _ hT (by omega) rfl).mono ?_;rintro e w' ⟨rfl,rfl⟩;rw[show((k:Int)+10).toNat=k+10 from by omega,HW.out]
     go_wp2_with fail
     go_ret2
     refine⟨Ff ?_,rfl⟩;rw[HF.out,VC _ HW.out];rfl
   | false =>
     have HW:=Lib.hid hw;clear hw;refine(I3 s _ 30 _ hT (by omega) rfl).mono ?_;rintro e w' ⟨rfl,rfl⟩;rw[show((k:Int)+10).toNat=k+10 from by omega,HW.out];cases hp:[46].isPrefixOf ((L s).drop (k+10)) with
     | true =>
       have HP:=Lib.hid hp;clear hp
       go_wp2_with fail
       refine(Ib _ _ _).mono ?_;rintro e w' ⟨rfl,rfl⟩;rw[MA,QG,HP.out]
       go_wp2_with fail
       go_ret2
       refine⟨Ff ?_,rfl⟩;rw[HF.out,VD _ HP.out];rfl
     | false =>
       have HP:=Lib.hid hp;clear hp
       go_wp2_with fail
       refine(Ib _ _ _).mono ?_;rintro e w' ⟨rfl,rfl⟩;rw[MA,QG,HP.out]
       go_wp2_with fail
       go_ret2
       refine⟨Ff ?_,rfl⟩;rw[HF.out,cM _ HW.out HP.out];simp[SI]
       try omega
 | false =>
   have HDT:=Lib.hid hdt;clear hdt;by_cases hz:s[k]=48/\1 < d
   · obtain⟨hz0,hd1⟩:=hz
     have hb:((s[k].toNat:Int) == 48)=true:=rK hz0
     have HF:Hid (IU ((L s).drop k)=(0,0)):=by
       refine Lib.hid ?_;unfold IU;simp only[HDT.out,Bool.false_eq_true,if_false,<- HD.out,iP s k hk,hz0,hd1,and_self,if_true]
     clear hz0
     go_wp2_with fail
     go_ret2
     refine⟨Ff ?_,rfl⟩;rw[HF.out];rfl
   · have hbb:((s[k].toNat:Int) == 48)=false\/(((s[k].toNat:Int) == 48)=true/\d<=1):=by
       by_cases h48:s[k]=48
       · right;exact⟨rK h48,by have:¬1 < d:=λh=>hz ⟨h48,h⟩;omega⟩
       · left;exact alW h48
     have HZ:Hid (¬(((L s).drop k).head?=some 48/\1 < d)):=by
       refine Lib.hid ?_;rw[iP s k hk];rintro⟨h1,h2⟩;exact hz ⟨by simpa using h1,h2⟩
     clear hz;cases hp:[46].isPrefixOf ((L s).drop (k+d)) with
     | true =>
       have HP:=Lib.hid hp;clear hp;have HP':Hid ((((L s).drop k).drop d).head?=some 46):=Lib.hid (by rw[List.drop_drop];exact(gW _).1 HP.out);by_cases hd10:10 < d
       · have HF:Hid (IU ((L s).drop k)=(0,0)):=by
           refine Lib.hid ?_;unfold IU;simp only[HDT.out,Bool.false_eq_true,if_false,<- HD.out];rw[if_neg HZ.out,if_pos HP'.out,if_pos (.inl hd10)]
         have hb:=hbb.resolve_right (by omega);clear hbb
         go_wp2_with fail
         refine(Ib _ _ _).mono ?_;rintro e w' ⟨rfl,rfl⟩;rw[MA,QG,HP.out]
         go_wp2_with fail
         go_ret2
         refine⟨Ff ?_,rfl⟩;rw[HF.out];rfl
       · cases h1:I1 8 ((L s).drop (k+d+1)) with
         | false =>
           have HF:Hid (IU ((L s).drop k)=(0,0)):=by
             refine Lib.hid ?_;unfold IU;simp only[HDT.out,Bool.false_eq_true,if_false,<- HD.out];rw[if_neg HZ.out,if_pos HP'.out,if_pos (.inr (.inl (by rw[List.drop_drop,<- Nat.add_assoc];exact h1)))]
           have H1:=Lib.hid h1;clear h1;rcases hbb with hb | ⟨hb,hd1⟩
           all_goals
             go_wp2_with fail
             refine(Ib _ _ _).mono ?_;rintro e w' ⟨rfl,rfl⟩;rw[MA,QG,HP.out]
             go_wp2_with fail
             refine(I3 s _ 8 _ hT (by omega) rfl).mono ?_;rintro e w' ⟨rfl,rfl⟩;rw[show((k:Int)+(d:Int)+1).toNat=k+d+1 from by omega,H1.out]
             go_wp2_with fail
             go_ret2
             refine⟨Ff ?_,rfl⟩;rw[HF.out];rfl
         | true =>
           have H1:=Lib.hid h1;clear h1;cases h2:I1 8 ((L s).drop (k+d+2)) with
           | false =>
             have HF:Hid (IU ((L s).drop k)=(0,0)):=by
               refine Lib.hid ?_;unfold IU;simp only[HDT.out,Bool.false_eq_true,if_false,<- HD.out];rw[if_neg HZ.out,if_pos HP'.out,if_pos (.inr (.inr (by rw[List.drop_drop,<- Nat.add_assoc];exact h2)))]
             have H2:=Lib.hid h2;clear h2;rcases hbb with hb | ⟨hb,hd1⟩
             all_goals
               go_wp2_with fail
               refine(Ib _ _ _).mono ?_;rintro e w' ⟨rfl,rfl⟩;rw[MA,QG,HP.out]
               go_wp2_with fail
               refine(I3 s _ 8 _ hT (by omega) rfl).mono ?_;rintro e w' ⟨rfl,rfl⟩;rw[show((k:Int)+(d:Int)+1).toNat=k+d+1 from by omega,H1.out]
               go_wp2_with fail
               refine(I3 s _ 8 _ hT (by omega) rfl).mono ?_;rintro e w' ⟨rfl,rfl⟩;rw[show((k:Int)+(d:Int)+2).toNat=k+d+2 from by omega,H2.out]
               go_wp2_with fail
               go_ret2
               refine⟨Ff ?_,rfl⟩;rw[HF.out];rfl
           | true =>
             have hsz:k+d+2 < s.size:=ayH 8 s _ h2
             have HF:Hid (IU ((L s).drop k)=if free ((L s).drop (k+d+3)) then (4,d+3) else (0,0)):=by
               refine Lib.hid ?_;unfold IU;simp only[HDT.out,Bool.false_eq_true,if_false,<- HD.out]
               rw[if_neg HZ.out,if_pos HP'.out,if_neg (by
                 rintro(h | h | h)
                 · omega
                 · rw[List.drop_drop,<- Nat.add_assoc] at h;rw[h] at H1;exact absurd H1.out (by simp)
                 · rw[List.drop_drop,<- Nat.add_assoc] at h;rw[h] at h2;exact absurd h2 (by simp))]
               rw[List.drop_drop,<- Nat.add_assoc]
             have H2:=Lib.hid h2;clear h2;rcases hbb with hb | ⟨hb,hd1⟩
             all_goals
               go_wp2_with fail
               refine(Ib _ _ _).mono ?_;rintro e w' ⟨rfl,rfl⟩;rw[MA,QG,HP.out]
               go_wp2_with fail
               refine(I3 s _ 8 _ hT (by omega) rfl).mono ?_;rintro e w' ⟨rfl,rfl⟩;rw[show((k:Int)+(d:Int)+1).toNat=k+d+1 from by omega,H1.out]
               go_wp2_with fail
               refine(I3 s _ 8 _ hT (by omega) rfl).mono ?_;rintro e w' ⟨rfl,rfl⟩;rw[show((k:Int)+(d:Int)+2).toNat=k+d+2 from by omega,H2.out];clear HP
               go_wp2_with fail
               cases hw:I1 30 ((L s).drop (k+d+3)) with
               | true =>
                 have HW:=Lib.hid hw;clear hw;refine(I3 s _ 30 _ hT (by omega) rfl).mono ?_;rintro e w' ⟨rfl,rfl⟩;rw[show((k:Int)+(d:Int)+3).toNat=k+d+3 from by omega,HW.out]
                 go_wp2_with fail
                 go_ret2
                 refine⟨Ff ?_,rfl⟩;rw[HF.out,VC _ HW.out];rfl
               | false =>
                 have HW:=Lib.hid hw;clear hw;refine(I3 s _ 30 _ hT (by omega) rfl).mono ?_;rintro e w' ⟨rfl,rfl⟩;rw[show((k:Int)+(d:Int)+3).toNat=k+d+3 from by omega,HW.out];cases hp:[46].isPrefixOf ((L s).drop (k+d+3)) with
                 | true =>
                   have HP:=Lib.hid hp;clear hp
                   go_wp2_with fail
                   refine(Ib _ _ _).mono ?_;rintro e w' ⟨rfl,rfl⟩;rw[MA,QG,HP.out]
                   go_wp2_with fail
                   go_ret2
                   refine⟨Ff ?_,rfl⟩;rw[HF.out,VD _ HP.out];rfl
                 | false =>
                   have HP:=Lib.hid hp;clear hp
                   go_wp2_with fail
                   refine(Ib _ _ _).mono ?_;rintro e w' ⟨rfl,rfl⟩;rw[MA,QG,HP.out]
                   go_wp2_with fail
                   go_ret2
                   refine⟨Ff ?_,rfl⟩;rw[HF.out,cM _ HW.out HP.out];simp[SI]
                   try omega
     | false =>
       have HP:=Lib.hid hp;clear hp;have HP':Hid (¬((((L s).drop k).drop d).head?=some 46)):=Lib.hid (by rw[List.drop_drop,<- gW,HP.out];simp);by_cases hd12:12 < d
       · have HF:Hid (IU ((L s).drop k)=(0,0)):=by
           refine Lib.hid ?_;unfold IU;simp only[HDT.out,Bool.false_eq_true,if_false,<- HD.out];rw[if_neg HZ.out,if_neg HP'.out,if_pos hd12]
         have hb:=hbb.resolve_right (by omega);clear hbb
         go_wp2_with fail
         refine(Ib _ _ _).mono ?_;rintro e w' ⟨rfl,rfl⟩;rw[MA,QG,HP.out]
         go_wp2_with fail
         go_ret2
         refine⟨Ff ?_,rfl⟩;rw[HF.out];rfl
       · have HF:Hid (IU ((L s).drop k)=if free ((L s).drop (k+d)) then (3,d) else (0,0)):=by
           refine Lib.hid ?_;unfold IU;simp only[HDT.out,Bool.false_eq_true,if_false,<- HD.out];rw[if_neg HZ.out,if_neg HP'.out,if_neg hd12,List.drop_drop]
         rcases hbb with hb | ⟨hb,hd1⟩
         all_goals
           go_wp2_with fail
           refine(Ib _ _ _).mono ?_;rintro e w' ⟨rfl,rfl⟩;rw[MA,QG,HP.out];clear HP
           go_wp2_with fail
           cases hw:I1 30 ((L s).drop (k+d)) with
           | true =>
             have HW:=Lib.hid hw;clear hw;refine(I3 s _ 30 _ hT (by omega) rfl).mono ?_;rintro e w' ⟨rfl,rfl⟩;rw[show((k:Int)+(d:Int)).toNat=k+d from by omega,HW.out]
             go_wp2_with fail
             go_ret2
             refine⟨Ff ?_,rfl⟩;rw[HF.out,VC _ HW.out];rfl
           | false =>
             have HW:=Lib.hid hw;clear hw;refine(I3 s _ 30 _ hT (by omega) rfl).mono ?_;rintro e w' ⟨rfl,rfl⟩;rw[show((k:Int)+(d:Int)).toNat=k+d from by omega,HW.out];cases hp:[46].isPrefixOf ((L s).drop (k+d)) with
             | true =>
               have HP:=Lib.hid hp;clear hp
               go_wp2_with fail
               refine(Ib _ _ _).mono ?_;rintro e w' ⟨rfl,rfl⟩;rw[MA,QG,HP.out]
               go_wp2_with fail
               go_ret2
               refine⟨Ff ?_,rfl⟩;rw[HF.out,VD _ HP.out];rfl
             | false =>
               have HP:=Lib.hid hp;clear hp
               go_wp2_with fail
               refine(Ib _ _ _).mono ?_;rintro e w' ⟨rfl,rfl⟩;rw[MA,QG,HP.out]
               go_wp2_with fail
               go_ret2
               refine⟨Ff ?_,rfl⟩;rw[HF.out,cM _ HW.out HP.out];simp[SI]
               try omega
end Go.Proofs.YtpbkhogolfegfaaGreatDoor
namespace Go.Proofs.YtpbkhogolfegfaaGreatDoor
open Go.RowKit LexS
def aqZ(w:World):(Instr.index 134 (.agg Iu) (.int .i64 ((0:Nat):Int))).run Tryz.prog w=.ok (.string ⟨(Gq.getD 0 []).toArray⟩) w:=by kernel_rfl
def arA(w:World):(Instr.index 134 (.agg Iu) (.int .i64 ((1:Nat):Int))).run Tryz.prog w=.ok (.string ⟨(Gq.getD 1 []).toArray⟩) w:=by kernel_rfl
def arB(w:World):(Instr.index 134 (.agg Iu) (.int .i64 ((2:Nat):Int))).run Tryz.prog w=.ok (.string ⟨(Gq.getD 2 []).toArray⟩) w:=by kernel_rfl
def arC(w:World):(Instr.index 134 (.agg Iu) (.int .i64 ((3:Nat):Int))).run Tryz.prog w=.ok (.string ⟨(Gq.getD 3 []).toArray⟩) w:=by kernel_rfl
def arD(w:World):(Instr.index 134 (.agg Iu) (.int .i64 ((4:Nat):Int))).run Tryz.prog w=.ok (.string ⟨(Gq.getD 4 []).toArray⟩) w:=by kernel_rfl
def arE(w:World):(Instr.index 134 (.agg Iu) (.int .i64 ((5:Nat):Int))).run Tryz.prog w=.ok (.string ⟨(Gq.getD 5 []).toArray⟩) w:=by kernel_rfl
def arF(w:World):(Instr.index 134 (.agg Iu) (.int .i64 ((6:Nat):Int))).run Tryz.prog w=.ok (.string ⟨(Gq.getD 6 []).toArray⟩) w:=by kernel_rfl
def arG(w:World):(Instr.index 134 (.agg Iu) (.int .i64 ((7:Nat):Int))).run Tryz.prog w=.ok (.string ⟨(Gq.getD 7 []).toArray⟩) w:=by kernel_rfl
def arH(w:World):(Instr.index 134 (.agg Iu) (.int .i64 ((8:Nat):Int))).run Tryz.prog w=.ok (.string ⟨(Gq.getD 8 []).toArray⟩) w:=by kernel_rfl
def arI(w:World):(Instr.index 134 (.agg Iu) (.int .i64 ((9:Nat):Int))).run Tryz.prog w=.ok (.string ⟨(Gq.getD 9 []).toArray⟩) w:=by kernel_rfl
def aiO(w:World):(Instr.index 134 (.agg Iu) (.int .i64 ((10:Nat):Int))).run Tryz.prog w=.ok (.string ⟨(Gq.getD 10 []).toArray⟩) w:=by kernel_rfl
def aiP(w:World):(Instr.index 134 (.agg Iu) (.int .i64 ((11:Nat):Int))).run Tryz.prog w=.ok (.string ⟨(Gq.getD 11 []).toArray⟩) w:=by kernel_rfl
def aiQ(w:World):(Instr.index 134 (.agg Iu) (.int .i64 ((12:Nat):Int))).run Tryz.prog w=.ok (.string ⟨(Gq.getD 12 []).toArray⟩) w:=by kernel_rfl
def aiR(w:World):(Instr.index 134 (.agg Iu) (.int .i64 ((13:Nat):Int))).run Tryz.prog w=.ok (.string ⟨(Gq.getD 13 []).toArray⟩) w:=by kernel_rfl
def aiS(w:World):(Instr.index 134 (.agg Iu) (.int .i64 ((14:Nat):Int))).run Tryz.prog w=.ok (.string ⟨(Gq.getD 14 []).toArray⟩) w:=by kernel_rfl
def aiT(w:World):(Instr.index 134 (.agg Iu) (.int .i64 ((15:Nat):Int))).run Tryz.prog w=.ok (.string ⟨(Gq.getD 15 []).toArray⟩) w:=by kernel_rfl
def aiU(w:World):(Instr.index 134 (.agg Iu) (.int .i64 ((16:Nat):Int))).run Tryz.prog w=.ok (.string ⟨(Gq.getD 16 []).toArray⟩) w:=by kernel_rfl
def zH(i:Nat)(hi:i < 17)(w:World):(Instr.index 134 (.agg Iu) (.int .i64 (i:Int))).run Tryz.prog w=.ok (.string ⟨(Gq.getD i []).toArray⟩) w:=by
 match i,hi with
 | 0,_=>exact aqZ w
 | 1,_=>exact arA w
 | 2,_=>exact arB w
 | 3,_=>exact arC w
 | 4,_=>exact arD w
 | 5,_=>exact arE w
 | 6,_=>exact arF w
 | 7,_=>exact arG w
 | 8,_=>exact arH w
 | 9,_=>exact arI w
 | 10,_=>exact aiO w
 | 11,_=>exact aiP w
 | 12,_=>exact aiQ w
 | 13,_=>exact aiR w
 | 14,_=>exact aiS w
 | 15,_=>exact aiT w
 | 16,_=>exact aiU w
 | n+17,h=>omega
def zG(t:List UInt8)(i:Nat)(hi:i < 17):Mh t (Gq.drop i)=if (Gq.getD i []).isPrefixOf t then (6,(Gq.getD i []).length) else Mh t (Gq.drop (i+1)):=by
 have:Gq.drop i=Gq.getD i []::Gq.drop (i+1):=by
   rw[List.drop_eq_getElem_cons (by simpa[Gq] using hi)]
   simp[List.getD,show i < Gq.length from by simpa[Gq] using hi]
 rw[this,Mh]
def arJ(i:Nat):(Gq.getD i []).length<=2:=by
 by_cases h:i < 17
 · have:∀j:Fin 17,(Gq.getD j.val []).length<=2:=by decide
   exact this ⟨i,h⟩
 · have:Gq.length<=i:=by simp[Gq];omega
   simp[List.getD,this]
set_option maxHeartbeats 2000000 in
def kI(s:ByteArray)(a:Int)(w:World)(hs:s.size<=6000)(hT:ML w)(h0:0<=a)(ha:a < s.size) :
   Calls Tryz.prog 117 #[.string s,.int .i64 a] w λe w'=>e=.returned (SI a.toNat (BI ((L s).drop a.toNat)))/\w=w':=by
 obtain⟨k,rfl⟩:=Int.eq_ofNat_of_zero_le h0;rw[Int.toNat_natCast];have hk:k < s.size:=by omega
 clear ha;obtain⟨d,hd⟩:∃d,d=BE 30 ((L s).drop k):=⟨_,rfl⟩;have hdl:k+d<=s.size:=by rw[hd];have:=Sh 30 ((L s).drop k);rw[L0] at this;omega
 have HD:=Lib.hid hd;clear hd
 go_enter Tryz.func117,Tryz.ntmps117
 go_wp2_with fail
 refine(Qm s _ 30 _ (by omega) hT (by omega) rfl).mono ?_;rintro e w' ⟨rfl,rfl⟩;rw[Int.toNat_natCast,<- HD.out]
 go_wp2_with fail
 refine(I3 s _ 2 _ hT (by omega) rfl).mono ?_;rintro e w' ⟨rfl,rfl⟩;rw[Int.toNat_natCast];cases h2:I1 2 ((L s).drop k) with
 | true =>
   have H2:=Lib.hid h2;clear h2;by_cases hd16:d<=16
   · obtain⟨d2,hd2⟩:∃d2,d2=BE 26 ((L s).drop k):=⟨_,rfl⟩
     have HD2:=Lib.hid hd2;clear hd2;by_cases he:d2=d
     · have HF:Hid (BI ((L s).drop k)=(1,d)):=by
         refine Lib.hid ?_;unfold BI;rw[H2.out,if_pos rfl,if_pos ⟨by rw[<- HD.out];exact hd16,by rw[<- HD.out,<- HD2.out];exact he⟩,<- HD.out]
       have hb:(((k:Int)+(d2:Int)) == ((k:Int)+(d:Int)))=true:=by rw[beq_iff_eq];omega
       clear he
       go_wp2_with fail
       refine(Qm s _ 26 _ (by omega) hT (by omega) rfl).mono ?_;rintro e w' ⟨rfl,rfl⟩;rw[Int.toNat_natCast,<- HD2.out]
       go_wp2_with fail
       go_ret2
       refine⟨Ff ?_,rfl⟩;rw[HF.out];rfl
     · have HF:Hid (BI ((L s).drop k)=(0,0)):=by
         refine Lib.hid ?_;unfold BI;rw[H2.out,if_pos rfl,if_neg (by rw[<- HD.out,<- HD2.out];exact λh=>he h.2)]
       have hb:(((k:Int)+(d2:Int)) == ((k:Int)+(d:Int)))=false:=by rw[beq_eq_false_iff_ne];omega
       clear he
       go_wp2_with fail
       refine(Qm s _ 26 _ (by omega) hT (by omega) rfl).mono ?_;rintro e w' ⟨rfl,rfl⟩;rw[Int.toNat_natCast,<- HD2.out]
       go_wp2_with fail
       go_ret2
       refine⟨Ff ?_,rfl⟩;rw[HF.out];rfl
   · have HF:Hid (BI ((L s).drop k)=(0,0)):=by
       refine Lib.hid ?_;unfold BI;rw[H2.out,if_pos rfl,if_neg (by rw[<- HD.out];exact λh=>hd16 h.1)]
     go_wp2_with fail
     go_ret2
     refine⟨Ff ?_,rfl⟩;rw[HF.out];rfl
 | false =>
   have H2:=Lib.hid h2;clear h2
   go_wp2_with fail
   refine(I3 s _ 4 _ hT (by omega) rfl).mono ?_;rintro e w' ⟨rfl,rfl⟩;rw[Int.toNat_natCast];cases h4:I1 4 ((L s).drop k) with
   | true =>
     have H4:=Lib.hid h4;clear h4;by_cases hd3:d=3
     · have hb3:(((k:Int)+(d:Int) - (k:Int)) == 3)=true:=by rw[beq_iff_eq];omega
       obtain⟨d2,hd2⟩:∃d2,d2=BE 4 ((L s).drop k):=⟨_,rfl⟩;have HD2:=Lib.hid hd2;clear hd2;have HD3:=Lib.hid hd3;by_cases he:d2=d
       · have HF:Hid (BI ((L s).drop k)=(2,d)):=by
           refine Lib.hid ?_;unfold BI;rw[H2.out,H4.out,if_neg (by simp),if_pos rfl,if_pos ⟨by rw[<- HD.out];exact hd3,by rw[<- HD.out,<- HD2.out];exact he⟩,<- HD.out]
         have hb:(((k:Int)+(d2:Int)) == ((k:Int)+(d:Int)))=true:=by rw[beq_iff_eq];omega
         clear he hd3
         go_wp2_with fail
         refine(Qm s _ 4 _ (by omega) hT (by omega) rfl).mono ?_;rintro e w' ⟨rfl,rfl⟩;rw[Int.toNat_natCast,<- HD2.out]
         go_wp2_with fail
         go_ret2
         refine⟨Ff ?_,rfl⟩;rw[HF.out];rfl
       · have HF:Hid (BI ((L s).drop k)=(0,0)):=by
           refine Lib.hid ?_;unfold BI;rw[H2.out,H4.out,if_neg (by simp),if_pos rfl,if_neg (by rw[<- HD.out,<- HD2.out];exact λh=>he h.2)]
         have hb:(((k:Int)+(d2:Int)) == ((k:Int)+(d:Int)))=false:=by rw[beq_eq_false_iff_ne];omega
         clear he hd3
         go_wp2_with fail
         refine(Qm s _ 4 _ (by omega) hT (by omega) rfl).mono ?_;rintro e w' ⟨rfl,rfl⟩;rw[Int.toNat_natCast,<- HD2.out]
         go_wp2_with fail
         go_ret2
         refine⟨Ff ?_,rfl⟩;rw[HF.out];rfl
     · have HF:Hid (BI ((L s).drop k)=(0,0)):=by
         refine Lib.hid ?_;unfold BI;rw[H2.out,H4.out,if_neg (by simp),if_pos rfl,if_neg (by rw[<- HD.out];exact λh=>hd3 h.1)]
       have hb3:(((k:Int)+(d:Int) - (k:Int)) == 3)=false:=by rw[beq_eq_false_iff_ne];omega
       clear hd3
       go_wp2_with fail
       go_ret2
       refine⟨Ff ?_,rfl⟩;rw[HF.out];rfl
   | false =>
     have H4:=Lib.hid h4;clear h4
     go_wp2_with fail
     refine(I3 s _ 8 _ hT (by omega) rfl).mono ?_;rintro e w' ⟨rfl,rfl⟩;rw[Int.toNat_natCast];cases h8:I1 8 ((L s).drop k) with
     | true =>
       have HF:Hid (BI ((L s).drop k)=IU ((L s).drop k)):=by
         refine Lib.hid ?_;unfold BI;rw[H2.out,H4.out,h8,if_neg (by simp),if_neg (by simp),if_pos rfl]
       clear h8
       go_wp2_with fail
       refine(hZ s _ _ hs hT (by omega) (by omega)).mono ?_;rintro e w' ⟨rfl,rfl⟩;rw[Int.toNat_natCast];by_cases hz:(IU ((L s).drop k)).1=0
       · have HO:Hid (SI k (IU ((L s).drop k))=.tuple #[.int .i64 0,.int .i64 0]):=Lib.hid (by unfold SI;rw[if_pos hz])
         clear hz;rw[HO.out]
         go_wp2_with fail
         go_ret2
         exact⟨by rw[HF.out,HO.out];rfl,rfl⟩
       · obtain⟨q,n,HO⟩:∃q n:Int,Hid (SI k (IU ((L s).drop k))=.tuple #[.int .i64 q,.int .i64 n]):=⟨_,_,Lib.hid (by unfold SI;rw[if_neg hz])⟩
         clear hz;rw[HO.out]
         go_wp2_with fail
         go_ret2
         exact⟨by rw[HF.out,HO.out];rfl,rfl⟩
     | false =>
       have HF:Hid (BI ((L s).drop k)=Mh ((L s).drop k) (Gq.drop 0)):=by
         refine Lib.hid ?_;unfold BI;rw[H2.out,H4.out,h8,if_neg (by simp),if_neg (by simp),if_neg (by simp),List.drop_zero]
       clear h8;have hg1:=hT.2;have HG:=Lib.hid hg1;clear hg1
       go_wp2_with (refine U0 rfl 134 _ rfl 0 rfl _ _ HG.out Tryz.underlying134 rfl (by kernel_rfl) ?_)
       go_loopg [8,54] 17 (λg _ x wx=>∃i:Nat,w=wx/\i<=17/\g=17 - i/\Hid (BI ((L s).drop k)=Mh ((L s).drop k) (Gq.drop i))/\x=.int .i64 i)
       case atStart=>exact⟨0,rfl,by omega,rfl,HF,rfl⟩
       case round =>
         obtain⟨i,rfl,hi,rfl,HI,rfl⟩:=hrel;by_cases hi17:i < 17
         · have hix:=zH i hi17
           have HS:=Lib.hid (zG ((L s).drop k) i hi17);have hsl:=arJ i;cases hp:(Gq.getD i []).isPrefixOf ((L s).drop k) with
           | true =>
             have hlen:k+(Gq.getD i []).length<=s.size:=by
               have:=(List.isPrefixOf_iff_prefix.1 hp).length_le;rw[L0] at this;omega
             have HP:=Lib.hid hp;clear hp;generalize hy:Gq.getD i []=y at *;clear hy
             go_wp2_with fail
             refine(Ib _ _ _).mono ?_;rintro e w' ⟨rfl,rfl⟩;rw[MA];rw[show L (⟨y.toArray⟩:ByteArray)=y from by simp,HP.out];clear hix
             go_wp2_with fail
             go_ret2
             refine⟨Ff ?_,rfl⟩;rw[HI.out,HS.out,HP.out];simp[SI]
           | false =>
             have HP:=Lib.hid hp;clear hp;generalize hy:Gq.getD i []=y at *;clear hy
             go_wp2_with fail
             refine(Ib _ _ _).mono ?_;rintro e w' ⟨rfl,rfl⟩;rw[MA];rw[show L (⟨y.toArray⟩:ByteArray)=y from by simp,HP.out];clear hix
             go_wp2_with fail
             go_roundg (17 - (i+1))
             case measure=>omega
             case rel =>
               refine⟨i+1,rfl,by omega,rfl,Lib.hid ?_,by go_num⟩;rw[HI.out,HS.out,HP.out];rfl
         · have hge:17<=i:=by omega
           go_wp2_with fail
           go_ret2
           refine⟨Ff ?_,rfl⟩;rw[HI.out,List.drop_eq_nil_of_le (show Gq.length<=i from hge)];rfl
end Go.Proofs.YtpbkhogolfegfaaGreatDoor
