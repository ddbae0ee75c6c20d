/- Part of a proof: see the last text. -/
import Derived.Test.YtkfplcngmiljaaaGreatDoorUln
import Derived.Test.YtkfplcngmiljaaaGreatDoorProg
import Derived.KernelRfl
import Derived.WalkKit
import Derived.WalkLawsBesides
import Derived.WalkSpells
import Derived.Lib.Hide
import Derived.Laws.Rows
import Derived.Recover
set_option linter.unusedVariables false
set_option linter.unusedSimpArgs false
namespace Go.Proofs.YtkfplcngmiljaaaGreatDoor
open AI Go Go.RowKit
theorem catch_idle (x y z : Value) (w : World) :
   CallsD Tryz.prog 68 #[x, y, z] .returning w fun e u' w' => e = .returned (.tuple #[]) ∧ u' = .returning ∧ w' = w := by
 refine callsD_of_wpS Tryz.func68 rfl fun c₀ cs hu => ?_
 apply wpS_seq
 apply wpS_region
 simp [wpOpsS, go_sem, recoverD, hu, Tryz.ntmps68, Exit.thenS]
 apply wpS_seq
 apply wpS_region
 simp [wpOpsS, go_sem, Exit.thenS]
 refine wpS_cond (t := false) (by simp [Act.eval, Array.replicate]) ?_
 simp only [Bool.false_eq_true, if_false]
 refine wpS_of_wp (wp_skip ?_)
 cases c₀
 simp_all [bodyPostS, results, Tryz.results68]
noncomputable def tryW (w : World) : World := ((w.alloc (.cells #[.int .i64 0, .string ⟨#[]⟩, .string ⟨#[]⟩, .int .i64 0, .int .i64 0, .int .i64 0, .int .i64 0, .int .i64 0, .slice none 0 0, .slice none 0 0, .int .i64 0] 27)).alloc (.cells #[.int .i64 0, .int .i64 0] 53)).alloc (.cells #[.bool false] 4)
theorem tryW_0 (w : World) : (tryW w).heap[w.heap.size]? = some (.cells #[.int .i64 0, .string ⟨#[]⟩, .string ⟨#[]⟩, .int .i64 0, .int .i64 0, .int .i64 0, .int .i64 0, .int .i64 0, .slice none 0 0, .slice none 0 0, .int .i64 0] 27 (0, 0)) := by
 unfold tryW
 rw [heap_alloc_old _ _ (by simp; omega), heap_alloc_old _ _ (by simp), heap_alloc_new]
theorem tryW_1 (w : World) : (tryW w).heap[w.heap.size + 1]? = some (.cells #[.int .i64 0, .int .i64 0] 53 (0, 0)) := by
 unfold tryW
 rw [heap_alloc_old _ _ (by simp), heap_alloc2_new]
theorem tryW_2 (w : World) : (tryW w).heap[w.heap.size + 1 + 1]? = some (.cells #[.bool false] 4 (0, 0)) := by
 unfold tryW
 have := heap_alloc_new ((w.alloc (.cells #[.int .i64 0, .string ⟨#[]⟩, .string ⟨#[]⟩, .int .i64 0, .int .i64 0, .int .i64 0, .int .i64 0, .int .i64 0, .slice none 0 0, .slice none 0 0, .int .i64 0] 27)).alloc (.cells #[.int .i64 0, .int .i64 0] 53)) (.cells #[.bool false] 4)
 rwa [World.size_alloc, World.size_alloc] at this
set_option maxRecDepth 20000 in
set_option maxHeartbeats 4000000 in
theorem try_walk (g : Nat) (hg : callable Tryz.prog g = true) (fs cs : Array Value) (w : World) (R : Array Value → World → Prop)
   (hR : ∀ xs w', R xs w' → (xs.size = 11 ∧ xs.all (·.oneCell') = true) ∧ w'.heap[w.heap.size]? = (tryW w).heap[w.heap.size]? ∧ w'.heap[w.heap.size + 1]? = (tryW w).heap[w.heap.size + 1]? ∧ w'.heap[w.heap.size + 1 + 1]? = (tryW w).heap[w.heap.size + 1 + 1]?)
   (hC : Calls Tryz.prog g (fs ++ cs) (tryW w) fun e w' => ∃ xs, e = .returned (.agg xs) ∧ R xs w') :
   Calls Tryz.prog 44 #[.func (.func g) fs cs] w fun e w2 => ∃ xs w', R xs w' ∧ e = .returned (.tuple #[.agg xs, .agg #[.int .i64 0, .int .i64 0], .bool true]) ∧ Chg w' w2 (newB w (tryW w)) := by
 have hmf : ∀ (fn : Fn) (first cap : Array Value) (w : World), (Instr.makeFunc fn first cap).run Tryz.prog w = .ok (.func fn first cap) w := fun _ _ _ _ => rfl
 have hen := fun args w => callFunc_ok (w := w) hg args
 have HC := Lib.hid hC
 have HR := Lib.hid hR
 clear hC hR
 go_enter_defers Tryz.func44, Tryz.ntmps44
 go_wp2_with fail
 refine HC.out.mono ?_
 clear HC
 rintro e w1 ⟨xs, rfl, hr⟩
 obtain ⟨⟨hx, hone⟩, k0, k1, k2⟩ := HR.out xs w1 hr
 clear HR
 have HB := Lib.hid hr
 clear hr
 have e0 : w1.heap[w.heap.size]? = some (.cells #[.int .i64 0, .string ⟨#[]⟩, .string ⟨#[]⟩, .int .i64 0, .int .i64 0, .int .i64 0, .int .i64 0, .int .i64 0, .slice none 0 0, .slice none 0 0, .int .i64 0] 27 (0, 0)) := by
   rw [k0]; exact tryW_0 w
 have e1 : w1.heap[w.heap.size + 1]? = some (.cells #[.int .i64 0, .int .i64 0] 53 (0, 0)) := by
   rw [k1]; exact tryW_1 w
 have e2 : w1.heap[w.heap.size + 1 + 1]? = some (.cells #[.bool false] 4 (0, 0)) := by
   rw [k2]; exact tryW_2 w
 have hl2 : w.heap.size + 1 + 1 < w1.heap.size := (Array.getElem?_eq_some_iff.1 e2).1
 obtain ⟨wa, hwa⟩ : ∃ wa, wa = w1.setRow w.heap.size xs := ⟨_, rfl⟩
 have ca := chg_setRow w1 w.heap.size xs
 rw [← hwa] at ca
 have f1 : wa.heap[w.heap.size + 1]? = some (.cells #[.int .i64 0, .int .i64 0] 53 (0, 0)) := by
   rw [ca.block _ (by omega) (by omega)]; exact e1
 have f2 : wa.heap[w.heap.size + 1 + 1]? = some (.cells #[.bool false] 4 (0, 0)) := by
   rw [ca.block _ (by omega) (by omega)]; exact e2
 have f0 : wa.heap[w.heap.size]? = some (.cells xs 27 (0, 0)) := by
   rw [hwa]; exact setRow_heap w1 _ _ _ _ _ e0
 have s0 : wa.setCell ⟨w.heap.size + 1, 0, none⟩ (.int .i64 0) = wa.setRow (w.heap.size + 1) #[.int .i64 0, .int .i64 0] := setCell_eq_setRow wa _ 0 _ _ _ _ f1
 obtain ⟨wd, hwd⟩ : ∃ wd, wd = wa.setCell ⟨w.heap.size + 1, 0, none⟩ (.int .i64 0) := ⟨_, rfl⟩
 have cd := chg_setRow wa (w.heap.size + 1) #[.int .i64 0, .int .i64 0]
 have fd1 : wd.heap[w.heap.size + 1]? = some (.cells #[.int .i64 0, .int .i64 0] 53 (0, 0)) := by
   rw [hwd, s0]; exact setRow_heap wa _ _ _ _ _ f1
 have s1 : wd.setCell ⟨w.heap.size + 1, 1, none⟩ (.int .i64 0) = wd.setRow (w.heap.size + 1) #[.int .i64 0, .int .i64 0] := setCell_eq_setRow wd _ 1 _ _ _ _ fd1
 rw [← s0, ← hwd] at cd
 obtain ⟨wb, hwb⟩ : ∃ wb, wb = wd.setCell ⟨w.heap.size + 1, 1, none⟩ (.int .i64 0) := ⟨_, rfl⟩
 have cb := chg_setRow wd (w.heap.size + 1) #[.int .i64 0, .int .i64 0]
 rw [← s1, ← hwb] at cb
 have hld : w.heap.size + 1 < wd.heap.size := (Array.getElem?_eq_some_iff.1 fd1).1
 have d0 : wa.cell? ⟨w.heap.size + 1, 0, none⟩ = some (.int .i64 0) := by simp [World.cell?, f1]
 have d1 : (wa.setCell ⟨w.heap.size + 1, 0, none⟩ (.int .i64 0)).cell? ⟨w.heap.size + 1, 1, none⟩ = some (.int .i64 0) := by rw [← hwd]; simp [World.cell?, fd1]
 have z0 : wa.frozen? ⟨w.heap.size + 1, 0, none⟩ = false := by simp [World.frozen?, f1]
 have z1 : (wa.setCell ⟨w.heap.size + 1, 0, none⟩ (.int .i64 0)).frozen? ⟨w.heap.size + 1, 1, none⟩ = false := by rw [← hwd]; simp [World.frozen?, fd1]
 have hla : w.heap.size + 1 + 1 < wa.heap.size := (Array.getElem?_eq_some_iff.1 f2).1
 have g0 : wb.heap[w.heap.size]? = some (.cells xs 27 (0, 0)) := by
   rw [cb.block _ (by omega) (by omega), cd.block _ (by omega) (by omega)]; exact f0
 have g1 : wb.heap[w.heap.size + 1]? = some (.cells #[.int .i64 0, .int .i64 0] 53 (0, 0)) := by
   rw [hwb, s1]; exact setRow_heap wd _ _ _ _ _ fd1
 have g2 : wb.heap[w.heap.size + 1 + 1]? = some (.cells #[.bool false] 4 (0, 0)) := by
   rw [cb.block _ (by have := cd.size; omega) (by omega), cd.block _ (by omega) (by omega)]; exact f2
 have c2 : ((wa.setCell ⟨w.heap.size + 1, 0, none⟩ (.int .i64 0)).setCell ⟨w.heap.size + 1, 1, none⟩ (.int .i64 0)).cell? ⟨w.heap.size + 1 + 1, 0, none⟩ = some (.bool false) := by rw [← hwd, ← hwb]; simp [World.cell?, g2]
 have z2 : ((wa.setCell ⟨w.heap.size + 1, 0, none⟩ (.int .i64 0)).setCell ⟨w.heap.size + 1, 1, none⟩ (.int .i64 0)).frozen? ⟨w.heap.size + 1 + 1, 0, none⟩ = false := by rw [← hwd, ← hwb]; simp [World.frozen?, g2]
 have hsz : (Tryz.prog.info? 27).map (·.size) = some xs.size := by rw [hx]; kernel_rfl
 have E0 := Lib.hid e0
 have HS := Lib.hid hsz
 have HX := Lib.hid hx
 have HO := Lib.hid hone
 have HWA := Lib.hid hwa
 have HWB := Lib.hid hwb
 have HWD := Lib.hid hwd
 have CD := Lib.hid cd
 have G0 := Lib.hid g0
 have G1 := Lib.hid g1
 have G2 := Lib.hid g2
 have CA := Lib.hid ca
 have CB := Lib.hid cb
 have HL := Lib.hid (And.intro hl2 hla)
 clear e0 e1 e2 f0 f1 f2 g0 g1 g2 hsz hx hone hwa hwb hwd s0 s1 fd1 hld ca cb cd k0 k1 k2 hl2 hla
 go_wp2_with (refine wpList_store_row rfl 27 _ _ rfl w.heap.size xs rfl rfl 27 _ E0.out HS.out (by rw [HX.out]; rfl) HO.out ?_; rw [← HWA.out])
 rw [← HWD.out, ← HWB.out]
 have s2 : wb.setCell ⟨w.heap.size + 1 + 1, 0, none⟩ (.bool true) = wb.setRow (w.heap.size + 1 + 1) #[.bool true] := setCell_eq_setRow wb _ 0 _ _ _ _ G2.out
 have cc := chg_setRow wb (w.heap.size + 1 + 1) #[.bool true]
 have h2 := setRow_heap wb (w.heap.size + 1 + 1) _ #[.bool true] _ _ G2.out
 rw [s2]
 generalize wb.setRow (w.heap.size + 1 + 1) #[.bool true] = wc at cc h2
 have hl := HL.out
 have hlb := CB.out.size
 have hld := CD.out.size
 have h0 : wc.heap[w.heap.size]? = some (.cells xs 27 (0, 0)) := by rw [cc.block _ (by omega) (by omega)]; exact G0.out
 have h1 : wc.heap[w.heap.size + 1]? = some (.cells #[.int .i64 0, .int .i64 0] 53 (0, 0)) := by rw [cc.block _ (by omega) (by omega)]; exact G1.out
 refine leaves_cons (f := 68) (args := #[.pointer (some ⟨w.heap.size, 0, none⟩), .pointer (some ⟨w.heap.size + 1, 0, none⟩), .pointer (some ⟨w.heap.size + 1 + 1, 0, none⟩)]) (by simp) (by simp [go_sem]) ?_
 refine (catch_idle _ _ _ _).mono ?_
 rintro e u' w2 ⟨rfl, rfl, rfl⟩
 show Leaves _ _ _ _ [] .returning _
 have l0 := run_loadVar_row (P := Tryz.prog) w2 w.heap.size _ 27 xs _ _ h0 Tryz.underlying27 rfl HS.out
 have l1 := run_loadVar_row (P := Tryz.prog) w2 (w.heap.size + 1) _ 53 #[.int .i64 0, .int .i64 0] _ _ h1 Tryz.underlying53 rfl (by kernel_rfl)
 have l2 : w2.cell? ⟨w.heap.size + 1 + 1, 0, none⟩ = some (.bool true) := by simp [World.cell?, h2]
 refine ⟨.tuple #[.agg xs, .agg #[.int .i64 0, .int .i64 0], .bool true], ?_, xs, w1, HB.out, rfl, ?_⟩
 · have l3 : (loadVar 4 ⟨w.heap.size + 1 + 1, 0, none⟩).run Tryz.prog w2 = .ok (.bool true) w2 := by simp [go_sem, l2]
   rw [results_eq, Tryz.results44]
   simp [resF, asAddr, Sem.run_bind, l0, l1, l3]
 · have hk : ∀ k, w1.heap.size > k → ¬ newB w (tryW w) k → k ≠ w.heap.size ∧ k ≠ w.heap.size + 1 ∧ k ≠ w.heap.size + 1 + 1 := by
     intro k _ hn
     have hs : (tryW w).heap.size = w.heap.size + 1 + 1 + 1 := by unfold tryW; simp
     refine ⟨fun e => hn ?_, fun e => hn ?_, fun e => hn ?_⟩ <;> subst e <;> refine ⟨?_, ?_⟩ <;> omega
   have ca := CA.out
   have cd := CD.out
   have cb := CB.out
   refine ⟨cc.os.trans (cb.os.trans (cd.os.trans ca.os)), cc.tape.trans (cb.tape.trans (cd.tape.trans ca.tape)), cc.output.trans (cb.output.trans (cd.output.trans ca.output)), Nat.le_trans ca.size (Nat.le_trans hld (Nat.le_trans hlb cc.size)), fun k hk1 hk2 => ?_⟩
   obtain ⟨n0, n1, n2⟩ := hk k hk1 hk2
   rw [cc.block k (by have := ca.size; omega) n2, cb.block k (by have := ca.size; omega) n1, cd.block k (by have := ca.size; omega) n1, ca.block k hk1 n0]
def tryK : CR → Option CR
 | .ret (.agg cs) => (match Nat.beq cs.length 11 with
   | true => (match cs.all one with
     | true => some (.ret (.tup [.agg cs, .agg [.sc (.int .i64 0), .sc (.int .i64 0)], .sc (.bool true)]))
     | false => none)
   | false => none)
 | _ => none
theorem try_sound {G : Glob} {g : FuncId} (hg : callable Tryz.prog g = true) {first caps : List AV} {s s' : AS} {r r' : CR} (h : Sound Tryz.prog G (.call g (first ++ [] ++ caps) s r s')) (hk : tryK r = some r') : Sound Tryz.prog G (.call 44 [.fn (.func g) first caps] s r' s') := by
 unfold tryK at hk
 split at hk
 · rename_i cs
   split at hk
   · rename_i hn
     split at hk
     · rename_i ho
       cases hk
       intro cx w vs hs ha
       cases ha with
       | cons h1 t =>
       cases t
       cases h1 with
       | fn hf hc =>
       rename_i us vs
       have k : Chg w (tryW w) (fun _ => False) := by
         have k1 := chg_push w (.cells #[.int .i64 0, .string ⟨#[]⟩, .string ⟨#[]⟩, .int .i64 0, .int .i64 0, .int .i64 0, .int .i64 0, .int .i64 0, .slice none 0 0, .slice none 0 0, .int .i64 0] 27)
         exact ⟨rfl, rfl, rfl, by unfold tryW; simp; omega, fun q hq _ => by unfold tryW; rw [heap_alloc_old _ _ (by simp; omega), heap_alloc_old _ _ (by simp; omega), heap_alloc_old _ _ hq]⟩
       have hsv := veil_st hs k
       have hm := veil_mon (cx := cx) k
       have hC := h (cx.veil w (tryW w)) (tryW w) (us ++ vs) hsv (by simpa using (hf.monoM hm).append (hc.monoM hm))
       have e1 : (us ++ vs).toArray = us.toArray ++ vs.toArray := by simp
       rw [e1] at hC
       refine (try_walk g hg us.toArray vs.toArray w (fun xs w' => ∃ c', Ext (cx.veil w (tryW w)) (tryW w) c' w' ∧ St G c' w' s' ∧ RpL c' w' cs xs.toList) ?_ (hC.mono ?_)).mono ?_
       · rintro xs w' ⟨c', hx, _, hr⟩
         have hl := hr.len
         have hsz : (tryW w).heap.size = w.heap.size + 1 + 1 + 1 := by unfold tryW; simp
         refine ⟨⟨by have := Nat.eq_of_beq_eq_true hn; rw [← Array.length_toList]; omega, ?_⟩, veil_keep hs hx ⟨by omega, by omega⟩, veil_keep hs hx ⟨by omega, by omega⟩, veil_keep hs hx ⟨by omega, by omega⟩⟩
         rw [Array.all_eq_true_iff_forall_mem]
         intro v hv
         exact ones_ok hr ho v (by simpa using hv)
       · rintro e w' ⟨c', hx, hs', u, rfl, hu⟩
         cases hu with
         | agg hr => exact ⟨_, rfl, c', hx, hs', by simpa using hr⟩
       · rintro e w2 ⟨xs, w', ⟨c', hx, hs', hr⟩, rfl, k2⟩
         have m2 := unveil_mon hx k2
         refine ⟨c'.unveil cx, unveil_ext hs k hx k2, unveil_st hs hx hs' k2, _, rfl, ?_⟩
         have hr2 := hr.monoM m2
         have ha : Rp (c'.unveil cx) w2 (.agg cs) (.agg xs) := by
           have := Rp.agg hr2
           simpa using this
         exact .tup (vs := [.agg xs, .agg #[.int .i64 0, .int .i64 0], .bool true]) (.cons ha (.cons (.agg (vs := [.int .i64 0, .int .i64 0]) (.cons (.sc rfl) (.cons (.sc rfl) .nil))) (.cons (.sc rfl) .nil)))
     · cases hk
   · cases hk
 · cases hk
end Go.Proofs.YtkfplcngmiljaaaGreatDoor
