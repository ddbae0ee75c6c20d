/- Part of a proof: see the last text. -/
import Derived.Test.YtnijkdknnmgoeaaGreatNup
import Derived.OpenShut
set_option linter.unusedVariables false
set_option linter.unusedSimpArgs false
namespace Go.Proofs.YtnijkdknnmgoeaaGreat
open AI Go
namespace Mo
set_option maxRecDepth 100000
set_option maxHeartbeats 4000000
theorem u16_in {z : Int} (h : (Lit.int .u16 z).wf = true) : 0 ≤ z ∧ z ≤ 65535 := by
 have h1 : (Lit.int .u16 z).wf = (decide ((0 : Int) ≤ z) && decide (z ≤ 65535)) := rfl
 rw [h1, Bool.and_eq_true, decide_eq_true_iff, decide_eq_true_iff] at h
 exact h
theorem ren_m (b : Int) : ∀ (m : Nat) (e : Ex), okE e → cnt e ≤ m → cnt e ≤ 1000000 → law10_renumbered_1_M m e b = some (ren b e) := by
 intro m
 induction m with
 | zero => intro e _ h; have := cnt_pos e; omega
 | succ m ih =>
   intro e hok hm hle
   obtain ⟨_, hk, hks⟩ := (okE_iff e).1 hok
   have hc := cnt_eq e
   have hkc := kids_cnt e.kids
   have lp : ∀ (body : Nat → Ex → List Ex → Option (Lp (List Ex) (List Ex) Ex)) (k : List Ex → Option Ex), (∀ i y x, body i y x = (law10_renumbered_1_M m y b).bind fun y3 => limA (x.length + 1) (some (.nx (x ++ [y3])))) → Sp (k (e.kids.map (ren b))) (fun r => r = ren b e) → Sp ((lim e.kids.length (foldL body (fun x => x) (e.kids.drop 0) 0 [])).bind (lpK k (fun v => some v))) (fun r => r = ren b e) := fun body k hb hk2 => by
     refine Sp_loop (fun i x => x = (e.kids.take i).map (ren b)) hk (by simp) (fun i y x hy hI => ?_) (fun x hI => ?_)
     · have hmem := List.mem_of_getElem? hy
       have := cnt_kid hmem
       have hi := (List.getElem?_eq_some_iff.1 hy).1
       rw [hb, ih y (hks y hmem) (by omega) (by omega), Option.bind_some, limA_of (by rw [hI, List.length_map, List.length_take]; omega), Sp_some, RQ_nx, List.take_add_one, hy, hI]
       simp
     · rw [hI, List.take_length]; exact hk2
   rw [law10_renumbered_1_M, law10_renumbered_1_B, Sp_eq, eqI_mb, c_mb, Sp_iff]
   refine ⟨fun h => ?_, fun h => ?_⟩
   · rw [law10_CodexNumbers_1_B, Option.bind_some]
     refine lp _ _ (fun i y x => rfl) ?_
     rw [Sp_some, ren_eq, if_pos h]; rfl
   · refine lp _ _ (fun i y x => rfl) ?_
     rw [Sp_some, ren_eq, if_neg h]
theorem ren_s (b : Int) (e : Ex) (h : okE e) (hle : cnt e ≤ 1000000) : law10_renumbered_1_R e b = some (ren b e) := evt_of (cnt e) fun n hn => ren_m b n e h hn hle
theorem law_numbers (c : Co) (b : Int) (hc : okC c) (hb : 0 ≤ b ∧ b ≤ 65535) : law10_CodexNumbers_B c b = some true := by
 obtain ⟨hf, hl, ha, hao⟩ := id hc
 rw [law10_CodexNumbers_B, law10_head_R, few_s c hc]
 simp only [Option.bind_some, c_mb]
 by_cases hfew : fewP c
 · rw [iff_T hfew, validR_s c hc]
   simp only [Option.bind_some, c_mb]
   by_cases hv : validP c
   · rw [iff_T hv]
     have hlen : c.arts.length ≤ 60 := hv.2.2.1
     have hvx := ren_valid hb hv
     have hcx := ren_okC (b := b) hc
     have hlx : (renC b c).arts.length = c.arts.length := by simp [renC]
     have hN := fun i => ren_Nd hb hv i
     rw [Sp_eq]
     refine Sp_loop (fun i x => x = (c.arts.take i).map (renA b)) ha (by simp) (fun i a x hi hI => ?_) (fun x hI => ?_)
     · have ham := List.mem_of_getElem? hi
       have hil := (List.getElem?_eq_some_iff.1 hi).1
       obtain ⟨hw, hu, hwe, hae⟩ := hao a ham
       obtain ⟨f1, f2, f3, f4⟩ := hfew.2.2.2 a ham
       simp only [law10_CodexNumbers_L1, law10_CodexNumbers_1_B, ren_s b a.am hae (by omega), Option.bind_some]
       refine Sp_loop (fun i x => x = (a.wh.take i).map (ren b)) hw (by simp) (fun j e x hj hJ => ?_) (fun x hJ => ?_)
       · have hem := List.mem_of_getElem? hj
         have hjl := (List.getElem?_eq_some_iff.1 hj).1
         have := f4 e hem
         simp only [law10_CodexNumbers_L2, ren_s b e (hwe e hem) (by omega), Option.bind_some]
         rw [limA_of (by rw [hJ, List.length_map, List.length_take]; omega), Sp_some, RQ_nx, List.take_add_one, hj, hJ]
         simp
       · rw [List.take_length] at hJ
         refine Sp_loop (fun i x => x = (a.un.take i).map (fr b)) hu (by simp) (fun j z y hj hK => ?_) (fun y hK => ?_)
         · have hjl := (List.getElem?_eq_some_iff.1 hj).1
           simp only [law10_CodexNumbers_L3, law10_CodexNumbers_1_B, Option.bind_some]
           rw [limA_of (by rw [hK, List.length_map, List.length_take]; omega), Sp_some, RQ_nx, List.take_add_one, hj, hK]
           simp [fr]
         · rw [List.take_length] at hK
           rw [limA_of (by rw [hI, List.length_map, List.length_take]; omega), Sp_some, RQ_nx, List.take_add_one, hi, hI, hJ, hK]
           simp [renA, fr]
     · rw [List.take_length] at hI
       have hx : (⟨c.facts, c.lines, x⟩ : Co) = renC b c := by rw [hI]; rfl
       rw [hx, validC_s _ hcx, Option.bind_some, c_mb, iff_T hvx, k_loop (v := false) (P := fun _ _ => True) ha (fun i a hi => by
         have hil := (List.getElem?_eq_some_iff.1 hi).1
         have hnl := Nd_len c i
         simp only [law10_CodexNumbers_L4, hx, Needs_n c hc hv i hil, Needs_n _ hcx hvx i (by rw [hlx]; exact hil), hN, Option.bind_some, sameInts_s _ _ (show (ndl c i).length ≤ 9223372036854775807 by omega), c_mb]
         rw [iff_T trivial, k_loop (v := false) (P := fun _ _ => True) ha (fun j y hj => by
           simp only [law10_CodexNumbers_L5, hx, beats_s c hc, beats_s _ hcx, Option.bind_some, mb_congr (ren_beats hb hv _ _), c_mb]
           unfold ck; rw [iff_T trivial]
           by_cases q : beats c ((i : Nat) : Int) ((j : Nat) : Int)
           · rw [iff_T q, iff_T q]
           · rw [iff_F q, iff_F q]), iff_T (fun _ _ _ => trivial)]
         unfold ck; rw [iff_T trivial]), iff_T (fun _ _ _ => trivial)]
       rw [Sp_bind]
       refine (order_s c hc hv).mono fun r hr => ?_
       obtain ⟨l, ok⟩ := r
       simp only
       rw [Sp_bind]
       refine (order_s _ hcx hvx).mono fun r' hr' => ?_
       have heq := ord_uniq hr (ordP_same hlx hN hr')
       subst heq
       have hll : l.length ≤ c.arts.length := by
         rcases hr with ⟨_, h, _⟩ | ⟨_, h, _⟩
         · simp only at h; omega
         · simp only at h; rw [h]; exact Nat.zero_le _
       simp only [cond_true, sameInts_s l l (by omega), Option.bind_some]
       cases ok <;> simp [Sp_some, mb_is_true]
   · rw [iff_F hv]
 · rw [iff_F hfew]
end Mo
end Go.Proofs.YtnijkdknnmgoeaaGreat
