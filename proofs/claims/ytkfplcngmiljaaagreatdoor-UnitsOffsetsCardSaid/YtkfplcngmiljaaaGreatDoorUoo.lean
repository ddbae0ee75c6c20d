/- Part of a proof: see the last text. -/
import Derived.Test.YtkfplcngmiljaaaGreatDoorUon
import Derived.Lib.Strings
import Derived.Lib.IndexBytes
import Derived.Deep.LoopGhost
set_option linter.unusedVariables false
set_option linter.unusedSimpArgs false
namespace Go.Proofs.YtkfplcngmiljaaaGreatDoor
open Go.RowKit LexS
theorem Hy {a b:Bool} (h:a=b):Ending.returned (.bool a)=.returned (.bool b):=by rw [h]
theorem T1 {k:IntKind} {a b:Int} (h:a=b):Ending.returned (.int k a)=.returned (.int k b):=by rw [h]
theorem F3 (s:ByteArray) (k:Nat):L (s.extract k s.size)=(L s).drop k:=Lib.extract_to_end s k
theorem T8:L { data:=#[47,47] }=[47,47]:=rfl
set_option maxHeartbeats 400000 in
theorem Dd (a b:ByteArray) (w:World) :
   Calls Tryz.prog 123 #[.string a,.string b] w fun e w'=>e=.returned (.bool ((L b).isPrefixOf (L a)))∧w=w':=by
 by_cases h:b.size≤a.size
 · go_enter Tryz.func123,Tryz.ntmps123
   go_wp2
   go_ret
   refine ⟨Hy (a:=((a.extract 0 b.size).toList == b.toList)) ?_,rfl⟩
   rw [ByteArray.toList_eq,ByteArray.toList_eq,Lib.extract_data,L0]
   simp
 · go_enter Tryz.func123,Tryz.ntmps123
   go_wp2
   go_ret
   refine ⟨Hy (a:=false) ?_,rfl⟩
   symm
   rw [Bool.eq_false_iff]
   intro h2
   have:=(List.isPrefixOf_iff_prefix.1 h2).length_le
   simp at this
   omega
set_option maxHeartbeats 1000000 in
theorem Ql (s:ByteArray) (a:Int) (w:World) (hs:s.size≤9223372036854775806) (hT:F7 w) (h0:0≤a) (ha:a≤s.size) :
   Calls Tryz.prog 101 #[.string s,.int .i64 a] w fun e w'=>e=.returned (.int .i64 (a+Eg ((L s).drop a.toNat):Int))∧w=w':=by
 obtain ⟨k0,rfl⟩:=Int.eq_ofNat_of_zero_le h0
 rw [Int.toNat_natCast]
 have hk0:k0≤s.size:=by omega
 clear ha
 go_enter Tryz.func101,Tryz.ntmps101
 go_wp2_with fail
 go_step3
 go_wp2_with fail
 go_step3
 go_wp2_with fail
 go_loopg [1] (s.size - k0) (fun g i wx=>∃ k:Nat,w=wx∧k≤s.size∧g=s.size - k∧Hid (k+Eg ((L s).drop k)=k0+Eg ((L s).drop k0))∧i=.int .i64 k)
 case atStart=>exact ⟨k0,rfl,hk0,rfl,Lib.hid rfl,rfl⟩
 case round =>
   obtain ⟨k,rfl,hk,rfl,HK,rfl⟩:=hrel
   have hk1:k+Bt 1 ((L s).drop k)≤s.size:=by
     have:=Kk 1 ((L s).drop k);simp at this;omega
   obtain ⟨k1,hk1e⟩:∃ k1,k1=k+Bt 1 ((L s).drop k):=⟨_,rfl⟩
   have HK1:Hid (k1+Eg ((L s).drop k1)=k0+Eg ((L s).drop k0)):=by
     refine Lib.hid ?_
     have h1:=HK.out
     have h2:=Vp ((L s).drop k)
     rw [List.drop_drop] at h2
     unfold Eg at h1 ⊢
     rw [hk1e]
     omega
   have hn1:GH 1 ((L s).drop k1)=false:=by
     have:=Vs 1 ((L s).drop k)
     rw [List.drop_drop] at this
     rw [hk1e];exact this
   have HN1:=Lib.hid hn1
   clear hn1
   have hk1':k1≤s.size:=by omega
   have hkk:k≤k1:=by omega
   have HE:=Lib.hid hk1e
   clear hk1e hk1
   go_wp2_with fail
   refine (H7 s _ 1 _ (by omega) hT (by omega) rfl).mono ?_
   rintro e w' ⟨rfl,rfl⟩
   rw [Int.toNat_natCast]
   rw [show ((k:Int)+(Bt 1 ((L s).drop k):Int))=(k1:Int) from by rw [HE.out];omega]
   clear HE
   cases hp:[47,47].isPrefixOf ((L s).drop k1) with
   | false =>
     have HP:=Lib.hid hp
     clear hp
     go_wp2_with fail
     refine (Dd _ _ _).mono ?_
     rintro e w' ⟨rfl,rfl⟩
     rw [F3,T8,HP.out]
     go_wp2_with fail
     rw [Exit.noGoto_ret]
     go_ret
     refine ⟨T1 (a:=(k1:Int)) ?_,rfl⟩
     have h1:=HK1.out
     have h2:=WI _ HN1.out HP.out
     unfold Eg at h1 ⊢
     omega
   | true =>
     have HP:=Lib.hid hp
     clear hp
     go_wp2_with fail
     refine (Dd _ _ _).mono ?_
     rintro e w' ⟨rfl,rfl⟩
     rw [F3,T8,HP.out]
     have hlen:k1+2≤s.size:=by
       have:=(List.isPrefixOf_iff_prefix.1 HP.out).length_le
       simp at this
       omega
     have HC:Hid (k1+Fc true ((L s).drop k1)=k0+Eg ((L s).drop k0)):=by
       refine Lib.hid ?_
       have h1:=HK1.out
       have h2:=QS _ HP.out
       unfold Eg at h1 ⊢
       omega
     have hne:Hid (s[k1]≠10):=by
       refine Lib.hid ?_
       have h1:=HP.out
       rw [HN s k1 (by omega)] at h1
       simp [List.isPrefixOf] at h1
       rw [← h1.1];decide
     clear HK1 HN1 HP
     go_wp2_with fail
     go_loopg [1] (s.size - k1) (fun g i wx=>∃ j:Nat,w=wx∧k1≤j∧j≤s.size∧g=s.size - j∧Hid (j=k1∨k1 < j)∧Hid (j+Fc true ((L s).drop j)=k0+Eg ((L s).drop k0))∧i=.int .i64 j)
     case atStart=>exact ⟨k1,rfl,Nat.le_refl _,by omega,rfl,Lib.hid (.inl rfl),HC,rfl⟩
     case round =>
       obtain ⟨j,rfl,hj1,hj2,rfl,HJ,HR,rfl⟩:=hrel
       by_cases hlt:j < s.size
       · by_cases hnl:s[j]=10
         · have hb:((s[j].toNat:Int) == 10)=true:=by rw [hnl];rfl
           have hjk:k1 < j:=by
             rcases HJ.out with h | h
             · subst h;exact absurd hnl hne.out
             · exact h
           have HNL:=Lib.hid hnl
           clear hnl
           go_wp2_with fail
           go_roundg (s.size - j)
           case measure=>omega
           case rel =>
             refine ⟨j,rfl,by omega,rfl,Lib.hid ?_,rfl⟩
             have h1:=HR.out
             rw [HN s j hlt,HNL.out,Ya,← HNL.out,← HN s j hlt] at h1
             exact h1
         · have hb:((s[j].toNat:Int) == 10)=false:=by
             rw [beq_eq_false_iff_ne];intro h;apply hnl;exact UInt8.toNat_inj.1 (by have:(10:UInt8).toNat=10:=rfl;omega)
           have HNL:=Lib.hid hnl
           clear hnl
           go_wp2_with fail
           go_roundg (s.size - (j+1))
           case measure=>omega
           case rel =>
             refine ⟨j+1,rfl,by omega,by omega,rfl,Lib.hid (.inr (by omega)),Lib.hid ?_,by go_num⟩
             have h1:=HR.out
             rw [HN s j hlt,jO _ _ HNL.out] at h1
             omega
       · have hge:s.size≤j:=by omega
         go_wp2_with fail
         rw [Exit.noGoto_ret]
         go_ret
         refine ⟨T1 (a:=(j:Int)) ?_,rfl⟩
         have h1:=HR.out
         rw [M0 s j hge] at h1
         simp only [Fc] at h1
         omega
end Go.Proofs.YtkfplcngmiljaaaGreatDoor
namespace Go.Proofs.YtkfplcngmiljaaaGreatDoor
open Go.RowKit LexS
theorem Iy:L { data:=#[46] }=[46]:=rfl
theorem TU {c d:UInt8} (h:c=d):((c.toNat:Int) == (d.toNat:Int))=true:=by rw [h];simp
theorem aQ {c d:UInt8} (h:c≠d):((c.toNat:Int) == (d.toNat:Int))=false:=by
 rw [beq_eq_false_iff_ne];intro e;exact h (UInt8.toNat_inj.1 (by omega))
theorem Wd {c d:UInt8} (h:c≠d):((c.toNat:Int) != (d.toNat:Int))=true:=by
 rw [bne_iff_ne];intro e;exact h (UInt8.toNat_inj.1 (by omega))
theorem Yd {c d:UInt8} (h:c=d):((c.toNat:Int) != (d.toNat:Int))=false:=by rw [h];simp
theorem kZ (s:ByteArray) (k i:Nat) (h:k+i < s.size):((L s).drop k)[i]?=some (s[k+i]):=by
 rw [List.getElem?_drop,List.getElem?_eq_getElem (by simpa using h)];rfl
theorem Rx (s:ByteArray) (k:Nat) (h:k < s.size):((L s).drop k).head?=some (s[k]):=by
 rw [HN s k h];rfl
theorem FA (s:ByteArray) (k:Nat):((L s).drop k).length=s.size - k:=by simp
theorem Wp (t:List UInt8) (hl:10≤t.length) (h:∀ j,j < 10→IM t j=true):GD t=true:=by
 unfold GD
 simp only [hl,decide_true,Bool.true_and,List.all_eq_true,List.mem_range]
 exact h
theorem Uo (t:List UInt8) (i:Nat) (hi:i < 10) (h:IM t i=false):GD t=false:=by
 unfold GD
 rw [Bool.and_eq_false_iff]
 right
 rw [List.all_eq_false]
 exact ⟨i,by simpa using hi,by simp [h]⟩
set_option maxHeartbeats 1000000 in
theorem SQ (s:ByteArray) (a:Int) (w:World) (hs:s.size≤6000) (hT:F7 w) (h0:0≤a) (ha:a≤s.size) :
   Calls Tryz.prog 135 #[.string s,.int .i64 a] w fun e w'=>e=.returned (.bool (GD ((L s).drop a.toNat)))∧w=w':=by
 obtain ⟨k,rfl⟩:=Int.eq_ofNat_of_zero_le h0
 rw [Int.toNat_natCast]
 by_cases hl:s.size < k+10
 · go_enter Tryz.func135,Tryz.ntmps135
   go_wp2_with fail
   go_ret
   refine ⟨Hy (a:=false) ?_,rfl⟩
   unfold GD
   rw [FA]
   simp;omega
 · have hl10:k+10≤s.size:=by omega
   clear hl
   go_enter Tryz.func135,Tryz.ntmps135
   go_wp2_with fail
   go_loopg [11] 10 (fun g x wx=>∃ i:Nat,w=wx∧i≤10∧g=10 - i∧Hid (∀ j,j < i→IM ((L s).drop k) j=true)∧x=.int .i64 i)
   case atStart=>exact ⟨0,rfl,by omega,rfl,Lib.hid (by omega),rfl⟩
   case round =>
     obtain ⟨i,rfl,hi,rfl,HI,rfl⟩:=hrel
     by_cases hi10:i < 10
     · by_cases h47:i=4∨i=7
       · have hd:Hid (IM ((L s).drop k) i=(some s[k+i] == some 45)):=by
           refine Lib.hid ?_
           unfold IM
           rw [if_pos h47,kZ s k i (by omega)]
         have hsel:((i:Int) == 4)=true∨(((i:Int) == 4)=false∧((i:Int) == 7)=true):=by
           rcases h47 with rfl | rfl
           · left;rfl
           · right;exact ⟨rfl,rfl⟩
         clear h47
         by_cases hm:s[k+i]=45
         · have hb:((s[k+i].toNat:Int) != 45)=false:=Yd hm
           have HM:=Lib.hid hm
           clear hm
           rcases hsel with h4 | ⟨h4,h7⟩
           all_goals
             go_wp2_with fail
             go_roundg (10 - (i+1))
             case measure=>omega
             case rel =>
               refine ⟨i+1,rfl,by omega,rfl,Lib.hid ?_,by go_num⟩
               intro j hj
               by_cases hji:j=i
               · subst hji;rw [hd.out,HM.out];rfl
               · exact HI.out j (by omega)
         · have hb:((s[k+i].toNat:Int) != 45)=true:=Wd hm
           have HM:=Lib.hid hm
           clear hm
           rcases hsel with h4 | ⟨h4,h7⟩
           all_goals
             go_wp2_with fail
             go_ret
             refine ⟨Hy (a:=false) ?_,rfl⟩
             symm
             refine Uo _ i hi10 ?_
             rw [hd.out]
             simpa using HM.out
       · have hd:Hid (IM ((L s).drop k) i=GH 8 ((L s).drop (k+i))):=by
           refine Lib.hid ?_
           unfold IM
           rw [if_neg h47,List.drop_drop]
         have h4:((i:Int) == 4)=false:=by rw [beq_eq_false_iff_ne];omega
         have h7:((i:Int) == 7)=false:=by rw [beq_eq_false_iff_ne];omega
         clear h47
         cases hb:GH 8 ((L s).drop (k+i)) with
         | true =>
           have HB:=Lib.hid hb
           clear hb
           go_wp2_with fail
           refine (DL s _ 8 _ hT (by omega) rfl).mono ?_
           rintro e w' ⟨rfl,rfl⟩
           rw [show ((k:Int)+(i:Int)).toNat=k+i from by omega,HB.out]
           go_wp2_with fail
           go_roundg (10 - (i+1))
           case measure=>omega
           case rel =>
             refine ⟨i+1,rfl,by omega,rfl,Lib.hid ?_,by go_num⟩
             intro j hj
             by_cases hji:j=i
             · subst hji;rw [hd.out,HB.out]
             · exact HI.out j (by omega)
         | false =>
           have HB:=Lib.hid hb
           clear hb
           go_wp2_with fail
           refine (DL s _ 8 _ hT (by omega) rfl).mono ?_
           rintro e w' ⟨rfl,rfl⟩
           rw [show ((k:Int)+(i:Int)).toNat=k+i from by omega,HB.out]
           go_wp2_with fail
           go_ret
           refine ⟨Hy (a:=false) ?_,rfl⟩
           symm
           refine Uo _ i hi10 ?_
           rw [hd.out,HB.out]
     · have hge:10≤i:=by omega
       go_wp2_with fail
       go_ret
       refine ⟨Hy (a:=true) ?_,rfl⟩
       symm
       refine Wp _ (by rw [FA];omega) ?_
       intro j hj
       exact HI.out j (by omega)
def Jq (k:Nat) (r:Nat×Nat):Value:=if r.1=0 then .tuple #[.int .i64 0,.int .i64 0] else .tuple #[.int .i64 r.1,.int .i64 ((k+r.2:Nat):Int)]
theorem B9 {k:Nat} {r:Nat×Nat} {v:Value} (h:v=Jq k r):Ending.returned v=.returned (Jq k r):=by rw [h]
theorem fO (m:Nat) (s:ByteArray) (k:Nat) (h:GH m ((L s).drop k)=true):k < s.size:=(QB m s k h).2
theorem Pu (t:List UInt8) (h1:GH 30 t=false) (h2:[46].isPrefixOf t=false):free t=true:=by
 unfold free
 cases t with
 | nil=>rfl
 | cons c t =>
   simp only [h1,Bool.false_or,List.head?_cons]
   have:¬ (46=c):=by simpa [List.isPrefixOf] using h2
   simp [Ne.symm this]
theorem K9 (t:List UInt8) (h1:GH 30 t=true):free t=false:=by unfold free;simp [h1]
theorem Lj (t:List UInt8) (h2:[46].isPrefixOf t=true):free t=false:=by
 unfold free
 obtain ⟨u,rfl⟩:=List.isPrefixOf_iff_prefix.1 h2
 simp
theorem Qs (t:List UInt8):[46].isPrefixOf t=true↔t.head?=some 46:=by
 cases t with
 | nil=>simp
 | cons c t=>simp [List.isPrefixOf];exact eq_comm
set_option maxHeartbeats 2000000 in
theorem Qw (s:ByteArray) (a:Int) (w:World) (hs:s.size≤6000) (hT:F7 w) (h0:0≤a) (ha:a < s.size) :
   Calls Tryz.prog 125 #[.string s,.int .i64 a] w fun e w'=>e=.returned (Jq a.toNat (FD ((L s).drop a.toNat)))∧w=w':=by
 obtain ⟨k,rfl⟩:=Int.eq_ofNat_of_zero_le h0
 rw [Int.toNat_natCast]
 have hk:k < s.size:=by omega
 clear ha
 obtain ⟨d,hd⟩:∃ d,d=Bt 8 ((L s).drop k):=⟨_,rfl⟩
 have hdl:k+d≤s.size:=by rw [hd];have:=Kk 8 ((L s).drop k);rw [FA] at this;omega
 have HD:=Lib.hid hd
 clear hd
 go_enter Tryz.func125,Tryz.ntmps125
 go_wp2_with fail
 refine (H7 s _ 8 _ (by omega) hT (by omega) rfl).mono ?_
 rintro e w' ⟨rfl,rfl⟩
 rw [Int.toNat_natCast,← HD.out]
 go_wp2_with fail
 refine (SQ s _ _ hs hT (by omega) (by omega)).mono ?_
 rintro e w' ⟨rfl,rfl⟩
 rw [Int.toNat_natCast]
 cases hdt:GD ((L s).drop k) with
 | true =>
   have hl10:k+10≤s.size:=by
     have:=hdt;unfold GD at this;rw [FA] at this;simp at this;omega
   have HF:Hid (FD ((L s).drop k)=if free ((L s).drop (k+10)) then (5,10) else (0,0)):=by
     refine Lib.hid ?_
     unfold FD
     simp only [hdt,if_true,List.drop_drop]
   clear hdt
   go_wp2_with fail
   cases hw:GH 30 ((L s).drop (k+10)) with
   | true =>
     have HW:=Lib.hid hw
     clear hw
     refine (DL s _ 30 _ hT (by omega) rfl).mono ?_
     rintro e w' ⟨rfl,rfl⟩
     rw [show ((k:Int)+10).toNat=k+10 from by omega,HW.out]
     go_wp2_with fail
     go_ret2
     refine ⟨B9 ?_,rfl⟩
     rw [HF.out,K9 _ HW.out]
     rfl
   | false =>
     have HW:=Lib.hid hw
     clear hw
     refine (DL s _ 30 _ hT (by omega) rfl).mono ?_
     rintro e w' ⟨rfl,rfl⟩
     rw [show ((k:Int)+10).toNat=k+10 from by omega,HW.out]
     cases hp:[46].isPrefixOf ((L s).drop (k+10)) with
     | true =>
       have HP:=Lib.hid hp
       clear hp
       go_wp2_with fail
       refine (Dd _ _ _).mono ?_
       rintro e w' ⟨rfl,rfl⟩
       rw [F3,Iy,HP.out]
       go_wp2_with fail
       go_ret2
       refine ⟨B9 ?_,rfl⟩
       rw [HF.out,Lj _ HP.out]
       rfl
     | false =>
       have HP:=Lib.hid hp
       clear hp
       go_wp2_with fail
       refine (Dd _ _ _).mono ?_
       rintro e w' ⟨rfl,rfl⟩
       rw [F3,Iy,HP.out]
       go_wp2_with fail
       go_ret2
       refine ⟨B9 ?_,rfl⟩
       rw [HF.out,Pu _ HW.out HP.out]
       simp [Jq]
       try omega
 | false =>
   have HDT:=Lib.hid hdt
   clear hdt
   by_cases hz:s[k]=48∧1 < d
   · obtain ⟨hz0,hd1⟩:=hz
     have hb:((s[k].toNat:Int) == 48)=true:=TU hz0
     have HF:Hid (FD ((L s).drop k)=(0,0)):=by
       refine Lib.hid ?_
       unfold FD
       simp only [HDT.out,Bool.false_eq_true,if_false,← HD.out,Rx s k hk,hz0,hd1,and_self,if_true]
     clear hz0
     go_wp2_with fail
     go_ret2
     refine ⟨B9 ?_,rfl⟩
     rw [HF.out]
     rfl
   · have hbb:((s[k].toNat:Int) == 48)=false∨(((s[k].toNat:Int) == 48)=true∧d≤1):=by
       by_cases h48:s[k]=48
       · right;exact ⟨TU h48,by have:¬ 1 < d:=fun h=>hz ⟨h48,h⟩;omega⟩
       · left;exact aQ h48
     have HZ:Hid (¬ (((L s).drop k).head?=some 48∧1 < d)):=by
       refine Lib.hid ?_
       rw [Rx s k hk]
       rintro ⟨h1,h2⟩
       exact hz ⟨by simpa using h1,h2⟩
     clear hz
     cases hp:[46].isPrefixOf ((L s).drop (k+d)) with
     | true =>
       have HP:=Lib.hid hp
       clear hp
       have HP':Hid ((((L s).drop k).drop d).head?=some 46):=Lib.hid (by rw [List.drop_drop];exact (Qs _).1 HP.out)
       by_cases hd10:10 < d
       · have HF:Hid (FD ((L s).drop k)=(0,0)):=by
           refine Lib.hid ?_
           unfold FD
           simp only [HDT.out,Bool.false_eq_true,if_false,← HD.out]
           rw [if_neg HZ.out,if_pos HP'.out,if_pos (.inl hd10)]
         have hb:=hbb.resolve_right (by omega)
         clear hbb
         go_wp2_with fail
         refine (Dd _ _ _).mono ?_
         rintro e w' ⟨rfl,rfl⟩
         rw [F3,Iy,HP.out]
         go_wp2_with fail
         go_ret2
         refine ⟨B9 ?_,rfl⟩
         rw [HF.out]
         rfl
       · cases h1:GH 8 ((L s).drop (k+d+1)) with
         | false =>
           have HF:Hid (FD ((L s).drop k)=(0,0)):=by
             refine Lib.hid ?_
             unfold FD
             simp only [HDT.out,Bool.false_eq_true,if_false,← HD.out]
             rw [if_neg HZ.out,if_pos HP'.out,if_pos (.inr (.inl (by rw [List.drop_drop,← Nat.add_assoc];exact h1)))]
           have H1:=Lib.hid h1
           clear h1
           rcases hbb with hb | ⟨hb,hd1⟩
           all_goals
             go_wp2_with fail
             refine (Dd _ _ _).mono ?_
             rintro e w' ⟨rfl,rfl⟩
             rw [F3,Iy,HP.out]
             go_wp2_with fail
             refine (DL s _ 8 _ hT (by omega) rfl).mono ?_
             rintro e w' ⟨rfl,rfl⟩
             rw [show ((k:Int)+(d:Int)+1).toNat=k+d+1 from by omega,H1.out]
             go_wp2_with fail
             go_ret2
             refine ⟨B9 ?_,rfl⟩
             rw [HF.out]
             rfl
         | true =>
           have H1:=Lib.hid h1
           clear h1
           cases h2:GH 8 ((L s).drop (k+d+2)) with
           | false =>
             have HF:Hid (FD ((L s).drop k)=(0,0)):=by
               refine Lib.hid ?_
               unfold FD
               simp only [HDT.out,Bool.false_eq_true,if_false,← HD.out]
               rw [if_neg HZ.out,if_pos HP'.out,if_pos (.inr (.inr (by rw [List.drop_drop,← Nat.add_assoc];exact h2)))]
             have H2:=Lib.hid h2
             clear h2
             rcases hbb with hb | ⟨hb,hd1⟩
             all_goals
               go_wp2_with fail
               refine (Dd _ _ _).mono ?_
               rintro e w' ⟨rfl,rfl⟩
               rw [F3,Iy,HP.out]
               go_wp2_with fail
               refine (DL s _ 8 _ hT (by omega) rfl).mono ?_
               rintro e w' ⟨rfl,rfl⟩
               rw [show ((k:Int)+(d:Int)+1).toNat=k+d+1 from by omega,H1.out]
               go_wp2_with fail
               refine (DL s _ 8 _ hT (by omega) rfl).mono ?_
               rintro e w' ⟨rfl,rfl⟩
               rw [show ((k:Int)+(d:Int)+2).toNat=k+d+2 from by omega,H2.out]
               go_wp2_with fail
               go_ret2
               refine ⟨B9 ?_,rfl⟩
               rw [HF.out]
               rfl
           | true =>
             have hsz:k+d+2 < s.size:=fO 8 s _ h2
             have HF:Hid (FD ((L s).drop k)=if free ((L s).drop (k+d+3)) then (4,d+3) else (0,0)):=by
               refine Lib.hid ?_
               unfold FD
               simp only [HDT.out,Bool.false_eq_true,if_false,← HD.out]
               rw [if_neg HZ.out,if_pos HP'.out,if_neg (by
                 rintro (h | h | h)
                 · omega
                 · rw [List.drop_drop,← Nat.add_assoc] at h;rw [h] at H1;exact absurd H1.out (by simp)
                 · rw [List.drop_drop,← Nat.add_assoc] at h;rw [h] at h2;exact absurd h2 (by simp))]
               rw [List.drop_drop,← Nat.add_assoc]
             have H2:=Lib.hid h2
             clear h2
             rcases hbb with hb | ⟨hb,hd1⟩
             all_goals
               go_wp2_with fail
               refine (Dd _ _ _).mono ?_
               rintro e w' ⟨rfl,rfl⟩
               rw [F3,Iy,HP.out]
               go_wp2_with fail
               refine (DL s _ 8 _ hT (by omega) rfl).mono ?_
               rintro e w' ⟨rfl,rfl⟩
               rw [show ((k:Int)+(d:Int)+1).toNat=k+d+1 from by omega,H1.out]
               go_wp2_with fail
               refine (DL s _ 8 _ hT (by omega) rfl).mono ?_
               rintro e w' ⟨rfl,rfl⟩
               rw [show ((k:Int)+(d:Int)+2).toNat=k+d+2 from by omega,H2.out]
               clear HP
               go_wp2_with fail
               cases hw:GH 30 ((L s).drop (k+d+3)) with
               | true =>
                 have HW:=Lib.hid hw
                 clear hw
                 refine (DL s _ 30 _ hT (by omega) rfl).mono ?_
                 rintro e w' ⟨rfl,rfl⟩
                 rw [show ((k:Int)+(d:Int)+3).toNat=k+d+3 from by omega,HW.out]
                 go_wp2_with fail
                 go_ret2
                 refine ⟨B9 ?_,rfl⟩
                 rw [HF.out,K9 _ HW.out]
                 rfl
               | false =>
                 have HW:=Lib.hid hw
                 clear hw
                 refine (DL s _ 30 _ hT (by omega) rfl).mono ?_
                 rintro e w' ⟨rfl,rfl⟩
                 rw [show ((k:Int)+(d:Int)+3).toNat=k+d+3 from by omega,HW.out]
                 cases hp:[46].isPrefixOf ((L s).drop (k+d+3)) with
                 | true =>
                   have HP:=Lib.hid hp
                   clear hp
                   go_wp2_with fail
                   refine (Dd _ _ _).mono ?_
                   rintro e w' ⟨rfl,rfl⟩
                   rw [F3,Iy,HP.out]
                   go_wp2_with fail
                   go_ret2
                   refine ⟨B9 ?_,rfl⟩
                   rw [HF.out,Lj _ HP.out]
                   rfl
                 | false =>
                   have HP:=Lib.hid hp
                   clear hp
                   go_wp2_with fail
                   refine (Dd _ _ _).mono ?_
                   rintro e w' ⟨rfl,rfl⟩
                   rw [F3,Iy,HP.out]
                   go_wp2_with fail
                   go_ret2
                   refine ⟨B9 ?_,rfl⟩
                   rw [HF.out,Pu _ HW.out HP.out]
                   simp [Jq]
                   try omega
     | false =>
       have HP:=Lib.hid hp
       clear hp
       have HP':Hid (¬ ((((L s).drop k).drop d).head?=some 46)):=Lib.hid (by rw [List.drop_drop,← Qs,HP.out];simp)
       by_cases hd12:12 < d
       · have HF:Hid (FD ((L s).drop k)=(0,0)):=by
           refine Lib.hid ?_
           unfold FD
           simp only [HDT.out,Bool.false_eq_true,if_false,← HD.out]
           rw [if_neg HZ.out,if_neg HP'.out,if_pos hd12]
         have hb:=hbb.resolve_right (by omega)
         clear hbb
         go_wp2_with fail
         refine (Dd _ _ _).mono ?_
         rintro e w' ⟨rfl,rfl⟩
         rw [F3,Iy,HP.out]
         go_wp2_with fail
         go_ret2
         refine ⟨B9 ?_,rfl⟩
         rw [HF.out]
         rfl
       · have HF:Hid (FD ((L s).drop k)=if free ((L s).drop (k+d)) then (3,d) else (0,0)):=by
           refine Lib.hid ?_
           unfold FD
           simp only [HDT.out,Bool.false_eq_true,if_false,← HD.out]
           rw [if_neg HZ.out,if_neg HP'.out,if_neg hd12,List.drop_drop]
         rcases hbb with hb | ⟨hb,hd1⟩
         all_goals
           go_wp2_with fail
           refine (Dd _ _ _).mono ?_
           rintro e w' ⟨rfl,rfl⟩
           rw [F3,Iy,HP.out]
           clear HP
           go_wp2_with fail
           cases hw:GH 30 ((L s).drop (k+d)) with
           | true =>
             have HW:=Lib.hid hw
             clear hw
             refine (DL s _ 30 _ hT (by omega) rfl).mono ?_
             rintro e w' ⟨rfl,rfl⟩
             rw [show ((k:Int)+(d:Int)).toNat=k+d from by omega,HW.out]
             go_wp2_with fail
             go_ret2
             refine ⟨B9 ?_,rfl⟩
             rw [HF.out,K9 _ HW.out]
             rfl
           | false =>
             have HW:=Lib.hid hw
             clear hw
             refine (DL s _ 30 _ hT (by omega) rfl).mono ?_
             rintro e w' ⟨rfl,rfl⟩
             rw [show ((k:Int)+(d:Int)).toNat=k+d from by omega,HW.out]
             cases hp:[46].isPrefixOf ((L s).drop (k+d)) with
             | true =>
               have HP:=Lib.hid hp
               clear hp
               go_wp2_with fail
               refine (Dd _ _ _).mono ?_
               rintro e w' ⟨rfl,rfl⟩
               rw [F3,Iy,HP.out]
               go_wp2_with fail
               go_ret2
               refine ⟨B9 ?_,rfl⟩
               rw [HF.out,Lj _ HP.out]
               rfl
             | false =>
               have HP:=Lib.hid hp
               clear hp
               go_wp2_with fail
               refine (Dd _ _ _).mono ?_
               rintro e w' ⟨rfl,rfl⟩
               rw [F3,Iy,HP.out]
               go_wp2_with fail
               go_ret2
               refine ⟨B9 ?_,rfl⟩
               rw [HF.out,Pu _ HW.out HP.out]
               simp [Jq]
               try omega
end Go.Proofs.YtkfplcngmiljaaaGreatDoor
namespace Go.Proofs.YtkfplcngmiljaaaGreatDoor
open Go.RowKit LexS
theorem Zp (w:World):(Instr.index 142 (.agg Dh) (.int .i64 ((0:Nat):Int))).run Tryz.prog w=.ok (.string ⟨(C0.getD 0 []).toArray⟩) w:=by kernel_rfl
theorem YQ (w:World):(Instr.index 142 (.agg Dh) (.int .i64 ((1:Nat):Int))).run Tryz.prog w=.ok (.string ⟨(C0.getD 1 []).toArray⟩) w:=by kernel_rfl
theorem Zu (w:World):(Instr.index 142 (.agg Dh) (.int .i64 ((2:Nat):Int))).run Tryz.prog w=.ok (.string ⟨(C0.getD 2 []).toArray⟩) w:=by kernel_rfl
theorem YY (w:World):(Instr.index 142 (.agg Dh) (.int .i64 ((3:Nat):Int))).run Tryz.prog w=.ok (.string ⟨(C0.getD 3 []).toArray⟩) w:=by kernel_rfl
theorem aB (w:World):(Instr.index 142 (.agg Dh) (.int .i64 ((4:Nat):Int))).run Tryz.prog w=.ok (.string ⟨(C0.getD 4 []).toArray⟩) w:=by kernel_rfl
theorem cC (w:World):(Instr.index 142 (.agg Dh) (.int .i64 ((5:Nat):Int))).run Tryz.prog w=.ok (.string ⟨(C0.getD 5 []).toArray⟩) w:=by kernel_rfl
theorem cQ (w:World):(Instr.index 142 (.agg Dh) (.int .i64 ((6:Nat):Int))).run Tryz.prog w=.ok (.string ⟨(C0.getD 6 []).toArray⟩) w:=by kernel_rfl
theorem Z0 (w:World):(Instr.index 142 (.agg Dh) (.int .i64 ((7:Nat):Int))).run Tryz.prog w=.ok (.string ⟨(C0.getD 7 []).toArray⟩) w:=by kernel_rfl
theorem Z7 (w:World):(Instr.index 142 (.agg Dh) (.int .i64 ((8:Nat):Int))).run Tryz.prog w=.ok (.string ⟨(C0.getD 8 []).toArray⟩) w:=by kernel_rfl
theorem Y6 (w:World):(Instr.index 142 (.agg Dh) (.int .i64 ((9:Nat):Int))).run Tryz.prog w=.ok (.string ⟨(C0.getD 9 []).toArray⟩) w:=by kernel_rfl
theorem Xn (w:World):(Instr.index 142 (.agg Dh) (.int .i64 ((10:Nat):Int))).run Tryz.prog w=.ok (.string ⟨(C0.getD 10 []).toArray⟩) w:=by kernel_rfl
theorem Yk (w:World):(Instr.index 142 (.agg Dh) (.int .i64 ((11:Nat):Int))).run Tryz.prog w=.ok (.string ⟨(C0.getD 11 []).toArray⟩) w:=by kernel_rfl
theorem XA (w:World):(Instr.index 142 (.agg Dh) (.int .i64 ((12:Nat):Int))).run Tryz.prog w=.ok (.string ⟨(C0.getD 12 []).toArray⟩) w:=by kernel_rfl
theorem Wa (w:World):(Instr.index 142 (.agg Dh) (.int .i64 ((13:Nat):Int))).run Tryz.prog w=.ok (.string ⟨(C0.getD 13 []).toArray⟩) w:=by kernel_rfl
theorem V9 (w:World):(Instr.index 142 (.agg Dh) (.int .i64 ((14:Nat):Int))).run Tryz.prog w=.ok (.string ⟨(C0.getD 14 []).toArray⟩) w:=by kernel_rfl
theorem XH (w:World):(Instr.index 142 (.agg Dh) (.int .i64 ((15:Nat):Int))).run Tryz.prog w=.ok (.string ⟨(C0.getD 15 []).toArray⟩) w:=by kernel_rfl
theorem Xw (w:World):(Instr.index 142 (.agg Dh) (.int .i64 ((16:Nat):Int))).run Tryz.prog w=.ok (.string ⟨(C0.getD 16 []).toArray⟩) w:=by kernel_rfl
theorem UL (i:Nat) (hi:i < 17) (w:World):(Instr.index 142 (.agg Dh) (.int .i64 (i:Int))).run Tryz.prog w=.ok (.string ⟨(C0.getD i []).toArray⟩) w:=by
 match i,hi with
 | 0,_=>exact Zp w
 | 1,_=>exact YQ w
 | 2,_=>exact Zu w
 | 3,_=>exact YY w
 | 4,_=>exact aB w
 | 5,_=>exact cC w
 | 6,_=>exact cQ w
 | 7,_=>exact Z0 w
 | 8,_=>exact Z7 w
 | 9,_=>exact Y6 w
 | 10,_=>exact Xn w
 | 11,_=>exact Yk w
 | 12,_=>exact XA w
 | 13,_=>exact Wa w
 | 14,_=>exact V9 w
 | 15,_=>exact XH w
 | 16,_=>exact Xw w
 | n+17,h=>omega
theorem U0 (t:List UInt8) (i:Nat) (hi:i < 17):LX t (C0.drop i)=if (C0.getD i []).isPrefixOf t then (6,(C0.getD i []).length) else LX t (C0.drop (i+1)):=by
 have:C0.drop i=C0.getD i []::C0.drop (i+1):=by
   rw [List.drop_eq_getElem_cons (by simpa [C0] using hi)]
   simp [List.getD,show i < C0.length from by simpa [C0] using hi]
 rw [this,LX]
theorem cF (i:Nat):(C0.getD i []).length≤2:=by
 by_cases h:i < 17
 · have:∀ j:Fin 17,(C0.getD j.val []).length≤2:=by decide
   exact this ⟨i,h⟩
 · have:C0.length≤i:=by simp [C0];omega
   simp [List.getD,this]
set_option maxHeartbeats 2000000 in
theorem Q1 (s:ByteArray) (a:Int) (w:World) (hs:s.size≤6000) (hT:F7 w) (h0:0≤a) (ha:a < s.size) :
   Calls Tryz.prog 102 #[.string s,.int .i64 a] w fun e w'=>e=.returned (Jq a.toNat (BZ ((L s).drop a.toNat)))∧w=w':=by
 obtain ⟨k,rfl⟩:=Int.eq_ofNat_of_zero_le h0
 rw [Int.toNat_natCast]
 have hk:k < s.size:=by omega
 clear ha
 obtain ⟨d,hd⟩:∃ d,d=Bt 30 ((L s).drop k):=⟨_,rfl⟩
 have hdl:k+d≤s.size:=by rw [hd];have:=Kk 30 ((L s).drop k);rw [FA] at this;omega
 have HD:=Lib.hid hd
 clear hd
 go_enter Tryz.func102,Tryz.ntmps102
 go_wp2_with fail
 refine (H7 s _ 30 _ (by omega) hT (by omega) rfl).mono ?_
 rintro e w' ⟨rfl,rfl⟩
 rw [Int.toNat_natCast,← HD.out]
 go_wp2_with fail
 refine (DL s _ 2 _ hT (by omega) rfl).mono ?_
 rintro e w' ⟨rfl,rfl⟩
 rw [Int.toNat_natCast]
 cases h2:GH 2 ((L s).drop k) with
 | true =>
   have H2:=Lib.hid h2
   clear h2
   by_cases hd16:d≤16
   · obtain ⟨d2,hd2⟩:∃ d2,d2=Bt 26 ((L s).drop k):=⟨_,rfl⟩
     have HD2:=Lib.hid hd2
     clear hd2
     by_cases he:d2=d
     · have HF:Hid (BZ ((L s).drop k)=(1,d)):=by
         refine Lib.hid ?_
         unfold BZ
         rw [H2.out,if_pos rfl,if_pos ⟨by rw [← HD.out];exact hd16,by rw [← HD.out,← HD2.out];exact he⟩,← HD.out]
       have hb:(((k:Int)+(d2:Int)) == ((k:Int)+(d:Int)))=true:=by rw [beq_iff_eq];omega
       clear he
       go_wp2_with fail
       refine (H7 s _ 26 _ (by omega) hT (by omega) rfl).mono ?_
       rintro e w' ⟨rfl,rfl⟩
       rw [Int.toNat_natCast,← HD2.out]
       go_wp2_with fail
       go_ret2
       refine ⟨B9 ?_,rfl⟩
       rw [HF.out]
       rfl
     · have HF:Hid (BZ ((L s).drop k)=(0,0)):=by
         refine Lib.hid ?_
         unfold BZ
         rw [H2.out,if_pos rfl,if_neg (by rw [← HD.out,← HD2.out];exact fun h=>he h.2)]
       have hb:(((k:Int)+(d2:Int)) == ((k:Int)+(d:Int)))=false:=by rw [beq_eq_false_iff_ne];omega
       clear he
       go_wp2_with fail
       refine (H7 s _ 26 _ (by omega) hT (by omega) rfl).mono ?_
       rintro e w' ⟨rfl,rfl⟩
       rw [Int.toNat_natCast,← HD2.out]
       go_wp2_with fail
       go_ret2
       refine ⟨B9 ?_,rfl⟩
       rw [HF.out]
       rfl
   · have HF:Hid (BZ ((L s).drop k)=(0,0)):=by
       refine Lib.hid ?_
       unfold BZ
       rw [H2.out,if_pos rfl,if_neg (by rw [← HD.out];exact fun h=>hd16 h.1)]
     go_wp2_with fail
     go_ret2
     refine ⟨B9 ?_,rfl⟩
     rw [HF.out]
     rfl
 | false =>
   have H2:=Lib.hid h2
   clear h2
   go_wp2_with fail
   refine (DL s _ 4 _ hT (by omega) rfl).mono ?_
   rintro e w' ⟨rfl,rfl⟩
   rw [Int.toNat_natCast]
   cases h4:GH 4 ((L s).drop k) with
   | true =>
     have H4:=Lib.hid h4
     clear h4
     by_cases hd3:d=3
     · have hb3:(((k:Int)+(d:Int) - (k:Int)) == 3)=true:=by rw [beq_iff_eq];omega
       obtain ⟨d2,hd2⟩:∃ d2,d2=Bt 4 ((L s).drop k):=⟨_,rfl⟩
       have HD2:=Lib.hid hd2
       clear hd2
       have HD3:=Lib.hid hd3
       by_cases he:d2=d
       · have HF:Hid (BZ ((L s).drop k)=(2,d)):=by
           refine Lib.hid ?_
           unfold BZ
           rw [H2.out,H4.out,if_neg (by simp),if_pos rfl,if_pos ⟨by rw [← HD.out];exact hd3,by rw [← HD.out,← HD2.out];exact he⟩,← HD.out]
         have hb:(((k:Int)+(d2:Int)) == ((k:Int)+(d:Int)))=true:=by rw [beq_iff_eq];omega
         clear he hd3
         go_wp2_with fail
         refine (H7 s _ 4 _ (by omega) hT (by omega) rfl).mono ?_
         rintro e w' ⟨rfl,rfl⟩
         rw [Int.toNat_natCast,← HD2.out]
         go_wp2_with fail
         go_ret2
         refine ⟨B9 ?_,rfl⟩
         rw [HF.out]
         rfl
       · have HF:Hid (BZ ((L s).drop k)=(0,0)):=by
           refine Lib.hid ?_
           unfold BZ
           rw [H2.out,H4.out,if_neg (by simp),if_pos rfl,if_neg (by rw [← HD.out,← HD2.out];exact fun h=>he h.2)]
         have hb:(((k:Int)+(d2:Int)) == ((k:Int)+(d:Int)))=false:=by rw [beq_eq_false_iff_ne];omega
         clear he hd3
         go_wp2_with fail
         refine (H7 s _ 4 _ (by omega) hT (by omega) rfl).mono ?_
         rintro e w' ⟨rfl,rfl⟩
         rw [Int.toNat_natCast,← HD2.out]
         go_wp2_with fail
         go_ret2
         refine ⟨B9 ?_,rfl⟩
         rw [HF.out]
         rfl
     · have HF:Hid (BZ ((L s).drop k)=(0,0)):=by
         refine Lib.hid ?_
         unfold BZ
         rw [H2.out,H4.out,if_neg (by simp),if_pos rfl,if_neg (by rw [← HD.out];exact fun h=>hd3 h.1)]
       have hb3:(((k:Int)+(d:Int) - (k:Int)) == 3)=false:=by rw [beq_eq_false_iff_ne];omega
       clear hd3
       go_wp2_with fail
       go_ret2
       refine ⟨B9 ?_,rfl⟩
       rw [HF.out]
       rfl
   | false =>
     have H4:=Lib.hid h4
     clear h4
     go_wp2_with fail
     refine (DL s _ 8 _ hT (by omega) rfl).mono ?_
     rintro e w' ⟨rfl,rfl⟩
     rw [Int.toNat_natCast]
     cases h8:GH 8 ((L s).drop k) with
     | true =>
       have HF:Hid (BZ ((L s).drop k)=FD ((L s).drop k)):=by
         refine Lib.hid ?_
         unfold BZ
         rw [H2.out,H4.out,h8,if_neg (by simp),if_neg (by simp),if_pos rfl]
       clear h8
       go_wp2_with fail
       refine (Qw s _ _ hs hT (by omega) (by omega)).mono ?_
       rintro e w' ⟨rfl,rfl⟩
       rw [Int.toNat_natCast]
       by_cases hz:(FD ((L s).drop k)).1=0
       · have HO:Hid (Jq k (FD ((L s).drop k))=.tuple #[.int .i64 0,.int .i64 0]):=Lib.hid (by unfold Jq;rw [if_pos hz])
         clear hz
         rw [HO.out]
         go_wp2_with fail
         go_ret2
         exact ⟨by rw [HF.out,HO.out];rfl,rfl⟩
       · obtain ⟨q,n,HO⟩:∃ q n:Int,Hid (Jq k (FD ((L s).drop k))=.tuple #[.int .i64 q,.int .i64 n]):=⟨_,_,Lib.hid (by unfold Jq;rw [if_neg hz])⟩
         clear hz
         rw [HO.out]
         go_wp2_with fail
         go_ret2
         exact ⟨by rw [HF.out,HO.out];rfl,rfl⟩
     | false =>
       have HF:Hid (BZ ((L s).drop k)=LX ((L s).drop k) (C0.drop 0)):=by
         refine Lib.hid ?_
         unfold BZ
         rw [H2.out,H4.out,h8,if_neg (by simp),if_neg (by simp),if_neg (by simp),List.drop_zero]
       clear h8
       have hg1:=hT.2
       have HG:=Lib.hid hg1
       clear hg1
       go_wp2_with (refine KA rfl 142 _ rfl 0 rfl _ _ HG.out Tryz.underlying142 rfl (by kernel_rfl) ?_)
       go_loopg [8,54] 17 (fun g _ x wx=>∃ i:Nat,w=wx∧i≤17∧g=17 - i∧Hid (BZ ((L s).drop k)=LX ((L s).drop k) (C0.drop i))∧x=.int .i64 i)
       case atStart=>exact ⟨0,rfl,by omega,rfl,HF,rfl⟩
       case round =>
         obtain ⟨i,rfl,hi,rfl,HI,rfl⟩:=hrel
         by_cases hi17:i < 17
         · have hix:=UL i hi17
           have HS:=Lib.hid (U0 ((L s).drop k) i hi17)
           have hsl:=cF i
           cases hp:(C0.getD i []).isPrefixOf ((L s).drop k) with
           | true =>
             have hlen:k+(C0.getD i []).length≤s.size:=by
               have:=(List.isPrefixOf_iff_prefix.1 hp).length_le
               rw [FA] at this;omega
             have HP:=Lib.hid hp
             clear hp
             generalize hy:C0.getD i []=y at *
             clear hy
             go_wp2_with fail
             refine (Dd _ _ _).mono ?_
             rintro e w' ⟨rfl,rfl⟩
             rw [F3]
             rw [show L (⟨y.toArray⟩:ByteArray)=y from by simp,HP.out]
             clear hix
             go_wp2_with fail
             go_ret2
             refine ⟨B9 ?_,rfl⟩
             rw [HI.out,HS.out,HP.out]
             simp [Jq]
           | false =>
             have HP:=Lib.hid hp
             clear hp
             generalize hy:C0.getD i []=y at *
             clear hy
             go_wp2_with fail
             refine (Dd _ _ _).mono ?_
             rintro e w' ⟨rfl,rfl⟩
             rw [F3]
             rw [show L (⟨y.toArray⟩:ByteArray)=y from by simp,HP.out]
             clear hix
             go_wp2_with fail
             go_roundg (17 - (i+1))
             case measure=>omega
             case rel =>
               refine ⟨i+1,rfl,by omega,rfl,Lib.hid ?_,by go_num⟩
               rw [HI.out,HS.out,HP.out]
               rfl
         · have hge:17≤i:=by omega
           go_wp2_with fail
           go_ret2
           refine ⟨B9 ?_,rfl⟩
           rw [HI.out,List.drop_eq_nil_of_le (show C0.length≤i from hge)]
           rfl
end Go.Proofs.YtkfplcngmiljaaaGreatDoor
