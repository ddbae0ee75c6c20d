/- Part of a proof: see the last text. -/
import Derived.Test.YtkfplcngmiljaaaGreatDoorUle
set_option linter.unusedVariables false
set_option linter.unusedSimpArgs false
namespace AI
open Go Go.RowKit
section
variable {P : Program} {G : Glob} {X : ExtsF} {H : Hook} {r : Rec}
theorem op_ok (hr : ∀ tk rs, r tk = some rs → Rt P G (XP X) H tk rs) {ops : Array Oper} {o : Oper} {fr : List AV} {s : AS} {rs : Rs} (h : stepOpR P G r fr s o (guardR ops fr o.guard) = some rs) : Rt P G (XP X) H (.op ops o fr s) rs := by
 rw [guardR_eq, guardF_eq] at h
 unfold stepOpR at h
 cases hw : awanted ops fr o with
 | false => rw [hw] at h; simp only at h; cases h; exact J.opSkip hw
 | true =>
   rw [hw] at h
   simp only at h
   rw [opSem_eq, aopF_eq] at h
   cases ha : aop P G fr s o with
   | none => rw [ha] at h; cases h
   | some a =>
     rw [ha] at h
     cases a with
     | val v s1 => simp only [opK] at h; cases h; exact J.opVal hw ha
     | pan v => simp only [opK] at h; cases h; exact J.opPan hw ha
     | ent f args =>
       simp only [opK] at h
       cases hc : r (.call f args s) with
       | none => rw [hc] at h; cases h
       | some q =>
         rw [hc] at h
         cases q with
         | call c s1 => simp only [callK] at h; cases h; exact J.opCall hw ha (hr _ _ hc)
         | _ => cases h
theorem stepR_ok (hr : ∀ tk rs, r tk = some rs → Rt P G (XP X) H tk rs) (tk : Tk) (rs : Rs) (h : stepR P G X H r tk = some rs) : Rt P G (XP X) H tk rs := by
 cases tk with
 | code c fr s =>
   simp only [stepR, codeSem_eq] at h
   cases c with
   | skip => simp only [stepCode] at h; cases h; exact J.skip
   | exit id => simp only [stepCode] at h; cases h; exact J.exit
   | ret => simp only [stepCode] at h; cases h; exact J.ret
   | seq x y =>
     simp only [stepCode] at h
     cases h1 : r (.code x fr s) with
     | none => rw [h1] at h; cases h
     | some q =>
       rw [h1] at h
       have i1 := hr _ _ h1
       cases q with
       | code e fr1 s1 =>
         cases e with
         | normal =>
           simp only [seqK] at h
           have i2 := hr _ _ h
           cases rs with
           | code e fr' s' => exact J.seq i1 i2
           | call r s' => exact i2.elim
           | tr t fr' s' => exact i2.elim
         | exit id => simp only [seqK] at h; cases h; exact J.seqX i1 (by simp)
         | ret => simp only [seqK] at h; cases h; exact J.seqX i1 (by simp)
         | pan v => simp only [seqK] at h; cases h; exact J.seqX i1 (by simp)
       | _ => cases h
   | cond q x y =>
     simp only [stepCode, aevalF_eq] at h
     cases hq : aeval G fr q with
     | none => rw [hq] at h; cases h
     | some v =>
       rw [hq] at h
       cases v with
       | sc u =>
         cases u with
         | bool t =>
           cases t with
           | true =>
             simp only [condK] at h
             have i2 := hr _ _ h
             cases rs with
             | code e fr' s' => exact J.cond hq i2
             | call r s' => exact i2.elim
             | tr t fr' s' => exact i2.elim
           | false =>
             simp only [condK] at h
             have i2 := hr _ _ h
             cases rs with
             | code e fr' s' => exact J.cond hq i2
             | call r s' => exact i2.elim
             | tr t fr' s' => exact i2.elim
         | _ => cases h
       | _ => cases h
   | block id c =>
     simp only [stepCode] at h
     cases h1 : r (.code c fr s) with
     | none => rw [h1] at h; cases h
     | some q =>
       rw [h1] at h
       cases q with
       | code e fr1 s1 => simp only [blockK] at h; cases h; exact J.block (hr _ _ h1)
       | _ => cases h
   | loop c =>
     simp only [stepCode] at h
     cases h1 : r (.loop c fr s) with
     | none => rw [h1] at h; cases h
     | some q =>
       rw [h1] at h
       cases q with
       | code e fr1 s1 => simp only [codeK] at h; cases h; exact J.loop (hr _ _ h1)
       | _ => cases h
   | region id ops d =>
     simp only [stepCode] at h
     cases d with
     | false =>
       simp only [regionC] at h
       cases h1 : r (.ops ops ops.toList fr s) with
       | none => rw [h1] at h; cases h
       | some q =>
         rw [h1] at h
         cases q with
         | code e fr1 s1 =>
           simp only [codeK] at h; cases h
           have := hr _ _ h1 0 (by simp)
           refine J.region ?_
           rw [Array.length_toList] at this
           rw [List.range_eq_range']
           exact this
         | _ => cases h
     | true =>
       simp only [regionC] at h
       cases hord : ordOk ops with
       | false => rw [hord] at h; cases h
       | true =>
         rw [hord] at h
         simp only [drawC] at h
         cases hrs : rsv P ops.toList with
         | none => rw [hrs] at h; cases h
         | some r0 =>
           rw [hrs] at h
           simp only [holdC] at h
           cases h1 : r (.draw ops ops.toList fr (s.hold r0) s.nx) with
           | none => rw [h1] at h; cases h
           | some q =>
             rw [h1] at h
             cases q with
             | tr t fr1 s1 =>
               simp only [drawK] at h
               cases hst : stable P G ops t s1 s.nx r0 with
               | false => rw [hst] at h; cases h
               | true => rw [hst] at h; simp only at h; cases h; exact draw_of hord hrs (hr _ _ h1) hst
             | _ => cases h
   | _ => simp only [stepCode] at h; cases h
 | loop c fr s =>
   simp only [stepR] at h
   cases h1 : r (.code c fr s) with
   | none => rw [h1] at h; cases h
   | some q =>
     rw [h1] at h
     have i1 := hr _ _ h1
     cases q with
     | code e fr1 s1 =>
       cases e with
       | normal =>
         simp only [loopK] at h
         have i2 := hr _ _ h
         cases rs with
         | code e fr' s' => exact J.loopN i1 i2
         | call r s' => exact i2.elim
         | tr t fr' s' => exact i2.elim
       | exit id => simp only [loopK] at h; cases h; exact J.loopX i1 (by simp)
       | ret => simp only [loopK] at h; cases h; exact J.loopX i1 (by simp)
       | pan v => simp only [loopK] at h; cases h; exact J.loopX i1 (by simp)
     | _ => cases h
 | ops ops l fr s =>
   simp only [stepR] at h
   cases l with
   | nil => simp only [stepOpsR] at h; cases h; intro k _; exact J.opsNil
   | cons o l =>
     simp only [stepOpsR] at h
     cases h1 : stepOpR P G r fr s o (guardR ops fr o.guard) with
     | none => rw [h1] at h; cases h
     | some q =>
       rw [h1] at h
       have i1 := op_ok hr h1
       cases q with
       | call c s1 =>
         cases c with
         | ret v =>
           simp only [opsKR, aputR_eq] at h
           have i2 := hr _ _ h
           cases rs with
           | code e fr' s' =>
             intro k hk
             obtain ⟨hk1, hk2⟩ : ops.toList[k]? = some o ∧ l = ops.toList.drop (k + 1) := by
               constructor
               · have := congrArg (fun x => x[0]?) hk
                 simpa using this.symm
               · have := congrArg List.tail hk
                 rw [List.tail_drop] at this
                 exact this
             rw [List.length_cons, List.range'_succ]
             exact J.opsCons (by rw [← Array.getElem?_toList]; exact hk1) i1 (i2 (k + 1) hk2)
           | call r s' => exact i2.elim
           | tr t fr' s' => exact i2.elim
         | pan v =>
           simp only [opsKR] at h
           cases h
           intro k hk
           have hk1 : ops.toList[k]? = some o := by
             have := congrArg (fun x => x[0]?) hk
             simpa using this.symm
           rw [List.length_cons, List.range'_succ]
           exact J.opsPan (by rw [← Array.getElem?_toList]; exact hk1) i1
       | _ => cases h
 | draw ops l fr s q0 =>
   simp only [stepR] at h
   cases l with
   | nil => simp only [stepDraw] at h; cases h; exact TrOk.nil
   | cons o l =>
     simp only [stepDraw] at h
     cases ha : isAlloc o.op with
     | true =>
       rw [ha] at h
       simp only [traceC, allocK] at h
       cases h2 : r (.draw ops l (aput fr o.dst (allocV ops fr o q0)) s (q0 + 1)) with
       | none => rw [h2] at h; cases h
       | some q =>
         rw [h2] at h
         cases q with
         | tr t fr1 s2 => simp only [trK] at h; cases h; exact TrOk.alloc ha (hr _ _ h2)
         | _ => cases h
     | false =>
       rw [ha] at h
       simp only [traceC] at h
       cases h1 : r (.op ops o fr s) with
       | none => rw [h1] at h; cases h
       | some q =>
         rw [h1] at h
         cases q with
         | call c s1 =>
           cases c with
           | ret v =>
             simp only [traceK] at h
             cases h2 : r (.draw ops l (aput fr o.dst v) s1 q0) with
             | none => rw [h2] at h; cases h
             | some q =>
               rw [h2] at h
               cases q with
               | tr t fr1 s2 => simp only [trK] at h; cases h; exact TrOk.cons ha (hr _ _ h1) (hr _ _ h2)
               | _ => cases h
           | pan v => cases h
         | _ => cases h
 | op ops o fr s => exact op_ok hr h
 | call f args s =>
   simp only [stepR] at h
   cases hx : X f args s with
   | some q => rw [hx] at h; obtain ⟨c, s1⟩ := q; simp only [extC] at h; cases h; exact J.ext hx
   | none =>
     rw [hx] at h
     simp only [extC] at h
     cases hh : H f args with
     | some q =>
       obtain ⟨g, gargs, k⟩ := q
       rw [hh] at h
       simp only [hookC] at h
       cases h1 : r (.call g gargs s) with
       | none => rw [h1] at h; cases h
       | some q =>
         rw [h1] at h
         cases q with
         | call c s1 =>
           simp only [hookK] at h
           cases hk : k c with
           | none => rw [hk] at h; cases h
           | some c1 => rw [hk] at h; simp only at h; cases h; exact J.hook hh (hr _ _ h1) hk
         | _ => cases h
     | none =>
       rw [hh] at h
       simp only [hookC] at h
       cases hf : P.funcs[f]? with
       | none => rw [hf] at h; cases h
       | some fn =>
         rw [hf] at h
         simp only [fnC] at h
         cases hb : fn.body with
         | none => rw [hb] at h; cases h
         | some c =>
           rw [hb] at h
           simp only [bodyC] at h
           cases h1 : r (.code c (args ++ List.replicate (fn.ntmps - args.length) (.sc undef)) s) with
           | none => rw [h1] at h; cases h
           | some q =>
             rw [h1] at h
             have i1 := hr _ _ h1
             cases q with
             | code e fr1 s1 =>
               cases e with
               | normal =>
                 simp only [bodyK] at h
                 cases ha : aresults P s1 fn fr1 with
                 | none => rw [ha] at h; cases h
                 | some v => rw [ha] at h; simp only [resK] at h; cases h; exact J.body hf hb i1 (.inl rfl) ha (fin_or _ _ _)
               | ret =>
                 simp only [bodyK] at h
                 cases ha : aresults P s1 fn fr1 with
                 | none => rw [ha] at h; cases h
                 | some v => rw [ha] at h; simp only [resK] at h; cases h; exact J.body hf hb i1 (.inr rfl) ha (fin_or _ _ _)
               | pan v => simp only [bodyK] at h; cases h; exact J.bodyP hf hb i1
               | exit id => simp only [bodyK] at h; cases h
             | _ => cases h
theorem goR_ok (n : Nat) (tk : Tk) (rs : Rs) (h : goR P G X H n tk = some rs) : Rt P G (XP X) H tk rs := by
 induction n generalizing tk rs with
 | zero => cases h
 | succ n ih => exact stepR_ok ih tk rs h
end
mutual
def plain : AV → Bool
 | .sc _ => true
 | .agg cs => plainL cs
 | .tup cs => plainL cs
 | .sl o _ cs => (match o with | .row _ _ => false | _ => true) && plainL cs
 | .ifc _ v => plain v
 | .el cs => plainL cs
 | .fn _ a b => plainL a && plainL b
 | .any => true
 | _ => false
def plainL : List AV → Bool
 | [] => true
 | a :: l => plain a && plainL l
end
mutual
def lose : AV → AV
 | .agg cs => .agg (loseL cs)
 | .tup cs => .tup (loseL cs)
 | .sl o n cs => .sl (match o with | .row _ _ => .lost | o => o) n (loseL cs)
 | .ifc t v => .ifc t (lose v)
 | .el cs => .el (loseL cs)
 | a => a
def loseL : List AV → List AV
 | [] => []
 | a :: l => lose a :: loseL l
end
mutual
def boxless : AV → Bool
 | .sc _ => true
 | .agg cs => boxlessL cs
 | .tup cs => boxlessL cs
 | .sl _ _ cs => boxlessL cs
 | .ifc _ v => boxless v
 | .el cs => boxlessL cs
 | .any => true
 | _ => false
def boxlessL : List AV → Bool
 | [] => true
 | a :: l => boxless a && boxlessL l
end
section
variable {c c' : Cx} {w w' : World}
mutual
theorem Rp.plain (hv : ∀ g i v, Vis c w g i v → Vis c' w' g i v) : ∀ {a : AV} {v : Value}, AI.plain a = true → Rp c w a v → Rp c' w' a v := by
 intro a v hp h
 cases h with
 | sc h1 => exact .sc h1
 | agg h1 => exact .agg (RpL.plain hv hp h1)
 | tup h1 => exact .tup (RpL.plain hv hp h1)
 | @sl0 own A cap h1 =>
   simp only [AI.plain, Bool.and_eq_true] at hp
   cases own with
   | full => exact .sl0 h1
   | lost => exact .sl0 h1
   | row r sz => cases hp.1
 | @sl1 own n cap g o cs hn h1 ho =>
   simp only [AI.plain, Bool.and_eq_true] at hp
   refine .sl1 hn (CellsAt.plain hv hp.2 h1) ?_
   cases own with
   | full => exact ho
   | lost => trivial
   | row r sz => cases hp.1
 | msl hn h1 => cases hp
 | el h1 => exact .el (CellsAt.plain hv hp h1)
 | ptr h1 => cases hp
 | fn h1 h2 =>
   simp only [AI.plain, Bool.and_eq_true] at hp
   exact .fn (RpL.plain hv hp.1 h1) (RpL.plain hv hp.2 h2)
 | ifc h1 => exact .ifc (Rp.plain hv hp h1)
 | mp h1 => cases hp
 | any h1 => exact .any h1
theorem RpL.plain (hv : ∀ g i v, Vis c w g i v → Vis c' w' g i v) : ∀ {a : List AV} {v : List Value}, AI.plainL a = true → RpL c w a v → RpL c' w' a v := by
 intro a v hp h
 cases h with
 | nil => exact .nil
 | cons h1 t =>
   simp only [AI.plainL, Bool.and_eq_true] at hp
   exact .cons (Rp.plain hv hp.1 h1) (RpL.plain hv hp.2 t)
theorem CellsAt.plain (hv : ∀ g i v, Vis c w g i v → Vis c' w' g i v) : ∀ {a : List AV} {g o : Nat}, AI.plainL a = true → CellsAt c w g o a → CellsAt c' w' g o a := by
 intro a g o hp h
 cases h with
 | nil => exact .nil
 | cons hvv h1 t =>
   simp only [AI.plainL, Bool.and_eq_true] at hp
   exact .cons (hv _ _ _ hvv) (Rp.plain hv hp.1 h1) (CellsAt.plain hv hp.2 t)
end
mutual
theorem Rp.lose (hv : ∀ g i v, Vis c w g i v → Vis c' w' g i v) : ∀ {a : AV} {v : Value}, boxless a = true → Rp c w a v → Rp c' w' (AI.lose a) v := by
 intro a v hp h
 cases h with
 | sc h1 => exact .sc h1
 | agg h1 => exact .agg (RpL.lose hv hp h1)
 | tup h1 => exact .tup (RpL.lose hv hp h1)
 | @sl0 own A cap h1 =>
   cases own with
   | full => exact .sl0 h1
   | lost => exact .sl0 h1
   | row r sz => exact .sl0 trivial
 | @sl1 own n cap g o cs hn h1 ho =>
   have h2 := CellsAt.lose hv hp h1
   refine .sl1 hn h2 ?_
   cases own with
   | full => exact ho
   | lost => trivial
   | row r sz => trivial
 | msl hn h1 => cases hp
 | el h1 => exact .el (CellsAt.lose hv hp h1)
 | ptr h1 => cases hp
 | fn h1 h2 => cases hp
 | ifc h1 => exact .ifc (Rp.lose hv hp h1)
 | mp h1 => cases hp
 | any h1 => exact .any h1
theorem RpL.lose (hv : ∀ g i v, Vis c w g i v → Vis c' w' g i v) : ∀ {a : List AV} {v : List Value}, boxlessL a = true → RpL c w a v → RpL c' w' (AI.loseL a) v := by
 intro a v hp h
 cases h with
 | nil => exact .nil
 | cons h1 t =>
   simp only [AI.boxlessL, Bool.and_eq_true] at hp
   exact .cons (Rp.lose hv hp.1 h1) (RpL.lose hv hp.2 t)
theorem CellsAt.lose (hv : ∀ g i v, Vis c w g i v → Vis c' w' g i v) : ∀ {a : List AV} {g o : Nat}, boxlessL a = true → CellsAt c w g o a → CellsAt c' w' g o (AI.loseL a) := by
 intro a g o hp h
 cases h with
 | nil => exact .nil
 | cons hvv h1 t =>
   simp only [AI.boxlessL, Bool.and_eq_true] at hp
   exact .cons (hv _ _ _ hvv) (Rp.lose hv hp.1 h1) (CellsAt.lose hv hp.2 t)
end
end
def s0 : AS := ⟨[], 0, [], 0⟩
theorem closed_call {P : Program} {G : Glob} (hG : ∀ g cs, G g = some cs → plainL cs = true) {f : FuncId} {args : List AV} {v : AV} {s1 : AS} (h : Sound P G (.call f args s0 (.ret v) s1)) (hp : plainL args = true) (hb : boxless v = true) (s : AS) : Sound P G (.call f args s (.ret (lose v)) s) := by
 intro cx w vs hs hargs
 have hvis : ∀ g i x, Vis cx w g i x → Vis ⟨w.heap.size, [], [], cx.shy⟩ w g i x := by
   intro g i x hx
   refine ⟨hx.1, fun hsh => ?_, hx.2.2⟩
   rcases hsh with hsh | ⟨r, n, cap, sz, hr, _⟩ | hsh
   · cases hsh
   · simp at hr
   · exact hx.2.1 hsh
 have hst : St G ⟨w.heap.size, [], [], cx.shy⟩ w s0 :=
   ⟨rfl, trivial, (fun i j g h1 => by simp at h1), (fun g hg => by cases hg), (fun id g b h1 => by simp at h1), rfl, (fun r g n cap sz hr => by simp at hr), (fun r n hr => by cases hr), (fun g hg => by cases hg), (fun g i hb => hs.shy_lt hb), (fun r r' g n cap sz n' cap' sz' hr => by simp at hr), (fun g cs hg => CellsAt.plain hvis (hG g cs hg) (hs.glob g cs hg)), Nat.le_refl _⟩
 refine (h _ w vs hst (RpL.plain hvis hp hargs)).mono ?_
 rintro e w' ⟨c', hx, _, u, rfl, hu⟩
 have hbel := hx.below
 obtain ⟨x2, st2⟩ := hs.same (w' := w') ⟨hbel.os, hbel.tape, hbel.output, hbel.size, fun k hk _ => hbel.block k hk⟩
 refine ⟨cx, x2, st2, u, rfl, Rp.lose (fun g i x hv => ⟨hv.1, fun hsh => hv.2.1 (.inr (.inr ?_)), hv.2.2⟩) hb hu⟩
 rw [hx.bad]
 exact hsh
theorem closed_meth {P : Program} {G : Glob} (hG : ∀ g cs, G g = some cs → plainL cs = true) {f : FuncId} {args cs cs' : List AV} {v : AV} {s1 : AS} (h : Sound P G (.call f (.ptr 0 0 :: args) ⟨[(0, .cells cs)], 1, [], 0⟩ (.ret v) s1)) (hs1 : s1.get 0 = some (.cells cs')) (hp : plainL args = true) (hcs : plainL cs = true) (hb : boxless v = true) (hb' : boxlessL cs' = true) (s : AS) (id : Nat) (hid : s.get id = some (.cells cs)) :
   Sound P G (.call f (.ptr id 0 :: args) s (.ret (lose v)) (s.put id (.cells (loseL cs')))) := by
 intro cx w vs hs hargs
 cases hargs with
 | @cons _ pv _ avs hptr hrest =>
   cases hptr with
   | @ptr _ _ g hphi =>
     have hgm : some g ∈ cx.phi := List.mem_of_getElem? hphi
     have hvis : ∀ k i x, Vis cx w k i x → Vis ⟨0, [some g], [], fun k i => k ≠ g ∧ cx.shy k i⟩ w k i x := by
       intro k i x hx
       refine ⟨hx.1, fun hsh => ?_, hx.2.2⟩
       rcases hsh with hsh | ⟨r, n, cap, sz, hr, _⟩ | hsh
       · have : k = g := by simpa using hsh
         subst this
         exact hx.2.1 (.inl hgm)
       · simp at hr
       · exact hx.2.1 hsh.2
     obtain ⟨us, T, hw, hur⟩ := box_cells hs hphi hid
     have hst : St G ⟨0, [some g], [], fun k i => k ≠ g ∧ cx.shy k i⟩ w ⟨[(0, .cells cs)], 1, [], 0⟩ := by
       refine ⟨rfl, ⟨by simp, trivial⟩, (fun i j g' h1 h2 => by have e1 := (List.getElem?_eq_some_iff.1 h1).1; have e2 := (List.getElem?_eq_some_iff.1 h2).1; simp at e1 e2; omega), (fun g hg => Nat.zero_le _), (fun id' g' b h1 h2 => ?_), rfl, (fun r g n cap sz hr => by simp at hr), (fun r n hr => by cases hr), (fun g' hg => ?_), (fun k i hb => hs.shy_lt hb.2), (fun r r' g n cap sz n' cap' sz' hr => by simp at hr), (fun g cs hg => CellsAt.plain hvis (hG g cs hg) (hs.glob g cs hg)), Nat.zero_le _⟩
       · simp only [AS.get, look] at h2
         split at h2
         · rename_i hb'
           cases h2
           have := (beq_true hb').symm
           subst this
           simp at h1
           subst h1
           exact ⟨_, hw, .cells (RpL.plain hvis hcs hur)⟩
         · cases h2
       · have : g' = g := by simpa using hg
         subst this
         exact hs.phi_lt hgm
     refine (h _ w _ hst (.cons (.ptr rfl) (RpL.plain hvis hp hrest))).mono ?_
     rintro e w' ⟨c', hx, hst', u, rfl, hu⟩
     have hphi' : c'.phi[0]? = some (some g) := hx.get (c := ⟨0, [some g], [], fun k i => k ≠ g ∧ cx.shy k i⟩) rfl
     obtain ⟨us', T', hw', hur'⟩ := box_cells hst' hphi' hs1
     have hvis' : ∀ k i x, Vis c' w' k i x → Vis cx w' k i x := by
       intro k i x hv
       refine ⟨hv.1, fun hsh => ?_, hv.2.2⟩
       by_cases hk : k = g
       · subst hk; exact hv.2.1 (.inl (List.mem_of_getElem? hphi'))
       · refine hv.2.1 (.inr (.inr ?_))
         rw [hx.bad]
         exact ⟨hk, hsh⟩
     have hbel := hx.below
     have hchg : Chg w w' (fun x => x = g) := ⟨hbel.os, hbel.tape, hbel.output, hbel.size, fun k hk hne => hx.keep k hk (by simpa using hne) (fun r n cap sz => by simp)⟩
     obtain ⟨x2, st2⟩ := hs.put2 hphi hchg hw' (BlkOk.cells (RpL.lose hvis' hb' hur'))
     exact ⟨cx, x2, st2, u, rfl, Rp.lose hvis' hb hu⟩
end AI
namespace AI
open Go Go.RowKit
mutual
def under (n m : Nat) : AV → Bool
 | .sc _ => true
 | .agg cs => underL n m cs
 | .tup cs => underL n m cs
 | .sl o _ cs => (match o with | .row r _ => decide (r < m) | _ => true) && underL n m cs
 | .msl id _ _ => decide (id < n)
 | .el cs => underL n m cs
 | .ptr id _ => decide (id < n)
 | .fn _ a b => underL n m a && underL n m b
 | .ifc _ v => under n m v
 | .mp id => decide (id < n)
 | .any => true
def underL (n m : Nat) : List AV → Bool
 | [] => true
 | a :: l => under n m a && underL n m l
end
mutual
theorem under_plain (n m : Nat) : ∀ {a : AV}, plain a = true → under n m a = true
 | .sc _, _ => rfl
 | .agg cs, h => by simp only [plain] at h; simp only [under]; exact under_plainL n m h
 | .tup cs, h => by simp only [plain] at h; simp only [under]; exact under_plainL n m h
 | .sl o k cs, h => by
   simp only [plain, Bool.and_eq_true] at h
   simp only [under, Bool.and_eq_true]
   refine ⟨?_, under_plainL n m h.2⟩
   cases o with
   | row r sz => cases h.1
   | _ => rfl
 | .msl _ _ _, h => by cases h
 | .el cs, h => by simp only [plain] at h; simp only [under]; exact under_plainL n m h
 | .ptr _ _, h => by cases h
 | .fn _ a b, h => by
   simp only [plain, Bool.and_eq_true] at h
   simp only [under, Bool.and_eq_true]
   exact ⟨under_plainL n m h.1, under_plainL n m h.2⟩
 | .ifc _ v, h => by simp only [plain] at h; simp only [under]; exact under_plain n m h
 | .mp _, h => by cases h
 | .any, _ => rfl
theorem under_plainL (n m : Nat) : ∀ {l : List AV}, plainL l = true → underL n m l = true
 | [], _ => rfl
 | a :: l, h => by
   simp only [plainL, Bool.and_eq_true] at h
   simp only [underL, Bool.and_eq_true]
   exact ⟨under_plain n m h.1, under_plainL n m h.2⟩
end
def Cx.upto (c : Cx) (n m : Nat) : Cx := ⟨c.base, c.phi.take n, c.rows.take m, c.bad⟩
theorem take_get {α : Type} {l : List α} {n i : Nat} {x : α} (h : (l.take n)[i]? = some x) : l[i]? = some x ∧ i < n := by
 rw [List.getElem?_take] at h
 split at h
 · rename_i hi; exact ⟨h, hi⟩
 · cases h
theorem take_of {α : Type} {l : List α} {n i : Nat} {x : α} (h : l[i]? = some x) (hi : i < n) : (l.take n)[i]? = some x := by
 rw [List.getElem?_take, if_pos hi]; exact h
section
variable {c : Cx} {w : World} {n m : Nat}
theorem shy_upto {g i : Nat} (h : (c.upto n m).shy g i) : c.shy g i := by
 rcases h with h | ⟨r, n, cap, sz, hr, h⟩ | h
 · exact .inl (List.mem_of_mem_take h)
 · exact .inr (.inl ⟨r, n, cap, sz, (take_get hr).1, h⟩)
 · exact .inr (.inr h)
theorem vis_upto {g i : Nat} {v : Value} (h : Vis c w g i v) : Vis (c.upto n m) w g i v := ⟨h.1, fun hs => h.2.1 (shy_upto hs), h.2.2⟩
mutual
theorem Rp.upto : ∀ {a : AV} {v : Value}, under n m a = true → Rp c w a v → Rp (c.upto n m) w a v := by
 intro a v hp h
 cases h with
 | sc h1 => exact .sc h1
 | agg h1 => exact .agg (RpL.upto hp h1)
 | tup h1 => exact .tup (RpL.upto hp h1)
 | @sl0 own A cap h1 =>
   simp only [AI.under, Bool.and_eq_true] at hp
   cases own with
   | full => exact .sl0 h1
   | lost => exact .sl0 trivial
   | row r sz =>
     have hr : r < m := of_decide_eq_true hp.1
     refine .sl0 ⟨h1.1, ?_⟩
     have := h1.2
     simp only [Cx.upto, List.length_take]
     omega
 | @sl1 own k cap g o cs hn h1 ho =>
   simp only [AI.under, Bool.and_eq_true] at hp
   refine .sl1 hn (CellsAt.upto hp.2 h1) ?_
   cases own with
   | full => exact ho
   | lost => trivial
   | row r sz =>
     have hr : r < m := of_decide_eq_true hp.1
     refine ⟨ho.1, ho.2.1, ?_, fun e => ho.2.2.2.1 (take_get e).1, fun g' n' c' s' e => ho.2.2.2.2 g' n' c' s' (take_get e).1⟩
     have := ho.2.2.1
     simp only [Cx.upto, List.length_take]
     omega
 | msl hn h1 => exact .msl hn (take_of h1 (of_decide_eq_true hp))
 | el h1 => exact .el (CellsAt.upto hp h1)
 | ptr h1 => exact .ptr (take_of h1 (of_decide_eq_true hp))
 | fn h1 h2 =>
   simp only [AI.under, Bool.and_eq_true] at hp
   exact .fn (RpL.upto hp.1 h1) (RpL.upto hp.2 h2)
 | ifc h1 => exact .ifc (Rp.upto hp h1)
 | mp h1 => exact .mp (take_of h1 (of_decide_eq_true hp))
 | any h1 => exact .any h1
theorem RpL.upto : ∀ {a : List AV} {v : List Value}, underL n m a = true → RpL c w a v → RpL (c.upto n m) w a v := by
 intro a v hp h
 cases h with
 | nil => exact .nil
 | cons h1 t =>
   simp only [AI.underL, Bool.and_eq_true] at hp
   exact .cons (Rp.upto hp.1 h1) (RpL.upto hp.2 t)
theorem CellsAt.upto : ∀ {a : List AV} {g o : Nat}, underL n m a = true → CellsAt c w g o a → CellsAt (c.upto n m) w g o a := by
 intro a g o hp h
 cases h with
 | nil => exact .nil
 | cons hvv h1 t =>
   simp only [AI.underL, Bool.and_eq_true] at hp
   exact .cons (vis_upto hvv) (Rp.upto hp.1 h1) (CellsAt.upto hp.2 t)
end
end
def canDrop : AV → Bool
 | .sc v => anyable v
 | .agg _ => false
 | _ => true
theorem canDrop_ok {c : Cx} {w : World} {a : AV} {v : Value} (h : Rp c w a v) (hd : canDrop a = true) : anyable v = true := by
 cases h <;> first | rfl | exact hd | assumption | (cases hd; done)
def ungrow : AV → AV
 | .sl _ n cs => .sl .lost n cs
 | a => a
inductive Fg (n m : Nat) : List AV → List AV → Prop where
 | nil : Fg n m [] []
 | keep {a : AV} {l k : List AV} (h : under n m a = true) (t : Fg n m l k) : Fg n m (a :: l) (a :: k)
 | drop {a : AV} {l k : List AV} (h : canDrop a = true) (t : Fg n m l k) : Fg n m (a :: l) (.any :: k)
 | lost {o : Own} {j : Nat} {cs l k : List AV} (h : underL n m cs = true) (t : Fg n m l k) : Fg n m (.sl o j cs :: l) (.sl .lost j cs :: k)
theorem Fg.ok {n m : Nat} {l k : List AV} (h : Fg n m l k) {c : Cx} {w : World} {vs : List Value} (hr : RpL c w l vs) : RpL (c.upto n m) w k vs := by
 induction h generalizing vs with
 | nil => cases hr; exact .nil
 | keep h _ ih => cases hr with | cons h1 t => exact .cons (h1.upto h) (ih t)
 | drop h _ ih => cases hr with | cons h1 t => exact .cons (.any (canDrop_ok h1 h)) (ih t)
 | @lost o j cs l k h _ ih =>
   cases hr with
   | cons h1 t =>
     refine .cons ?_ (ih t)
     cases h1 with
     | sl0 _ => exact .sl0 trivial
     | sl1 hn hc ho => exact .sl1 hn (hc.upto h) trivial
def underEs (n m : Nat) : List (Value × AV × Nat) → Bool
 | [] => true
 | e :: l => under n m e.2.1 && underEs n m l
def underB (n m : Nat) : ABlk → Bool
 | .cells cs => underL n m cs
 | .map es _ => underEs n m es
theorem EntL.upto {c : Cx} {w : World} {n m : Nat} : ∀ {es : List (Value × AV × Nat)} {fs : List MapEntry}, underEs n m es = true → EntL c w es fs → EntL (c.upto n m) w es fs := by
 intro es
 induction es with
 | nil => intro fs _ h; cases h; exact .nil
 | cons e es ih =>
   intro fs hu h
   obtain ⟨x, a, b⟩ := e
   simp only [underEs, Bool.and_eq_true] at hu
   cases h with | cons h1 t => exact .cons (h1.upto hu.1) (ih hu.2 t)
theorem BlkOk.upto {c : Cx} {w : World} {n m : Nat} {b : ABlk} {o : Obj} (hb : underB n m b = true) (h : BlkOk c w b o) : BlkOk (c.upto n m) w b o := by
 cases h with
 | cells h1 => exact .cells (h1.upto hb)
 | map h1 => exact .map (h1.upto hb)
def Fits (n m : Nat) (a b : AV) : Prop := ∀ (c : Cx) (w : World) (v : Value), Rp c w a v → Rp (c.upto n m) w b v
def FitsL (n m : Nat) (a b : List AV) : Prop := ∀ (c : Cx) (w : World) (v : List Value), RpL c w a v → RpL (c.upto n m) w b v
def FitsC (n m : Nat) (a b : List AV) : Prop := ∀ (c : Cx) (w : World) (g o : Nat), CellsAt c w g o a → CellsAt (c.upto n m) w g o b
def FitsB (n m : Nat) (a b : ABlk) : Prop := ∀ (c : Cx) (w : World) (o : Obj), BlkOk c w a o → BlkOk (c.upto n m) w b o
theorem Fits.under {n m : Nat} {a : AV} (h : AI.under n m a = true) : Fits n m a a := fun _ _ _ hr => hr.upto h
theorem FitsL.under {n m : Nat} {a : List AV} (h : AI.underL n m a = true) : FitsL n m a a := fun _ _ _ hr => hr.upto h
theorem FitsC.under {n m : Nat} {a : List AV} (h : AI.underL n m a = true) : FitsC n m a a := fun _ _ _ _ hr => hr.upto h
theorem FitsB.under {n m : Nat} {b : ABlk} (h : underB n m b = true) : FitsB n m b b := fun _ _ _ hr => hr.upto h
theorem Fits.plain {n m : Nat} {a : AV} (h : AI.plain a = true) : Fits n m a a := .under (under_plain n m h)
theorem FitsL.plain {n m : Nat} {a : List AV} (h : plainL a = true) : FitsL n m a a := .under (under_plainL n m h)
theorem FitsC.plain {n m : Nat} {a : List AV} (h : plainL a = true) : FitsC n m a a := .under (under_plainL n m h)
theorem Fits.sc {n m : Nat} {v : Value} : Fits n m (.sc v) (.sc v) := .under rfl
theorem Fits.drop {n m : Nat} {a : AV} (h : canDrop a = true) : Fits n m a .any := fun _ _ _ hr => .any (canDrop_ok hr h)
theorem Fits.agg {n m : Nat} {a b : List AV} (h : FitsL n m a b) : Fits n m (.agg a) (.agg b) := fun _ _ _ hr => by cases hr with | agg h1 => exact .agg (h _ _ _ h1)
theorem Fits.tup {n m : Nat} {a b : List AV} (h : FitsL n m a b) : Fits n m (.tup a) (.tup b) := fun _ _ _ hr => by cases hr with | tup h1 => exact .tup (h _ _ _ h1)
theorem Fits.lost {n m : Nat} {o : Own} {k : Nat} {a b : List AV} (h : FitsC n m a b) (e : a = [] → b = []) : Fits n m (.sl o k a) (.sl .lost k b) := fun _ _ _ hr => by
 cases hr with
 | sl0 _ => rw [e rfl]; exact .sl0 trivial
 | sl1 hn hc ho => exact .sl1 hn (h _ _ _ _ hc) trivial
theorem FitsL.nil {n m : Nat} : FitsL n m [] [] := fun _ _ _ hr => by cases hr; exact .nil
theorem FitsL.cons {n m : Nat} {a b : AV} {l k : List AV} (h : Fits n m a b) (t : FitsL n m l k) : FitsL n m (a :: l) (b :: k) := fun _ _ _ hr => by cases hr with | cons h1 t1 => exact .cons (h _ _ _ h1) (t _ _ _ t1)
theorem FitsC.nil {n m : Nat} : FitsC n m [] [] := fun _ _ _ _ hr => by cases hr; exact .nil
theorem FitsC.cons {n m : Nat} {a b : AV} {l k : List AV} (h : Fits n m a b) (t : FitsC n m l k) : FitsC n m (a :: l) (b :: k) := fun _ _ _ _ hr => by cases hr with | cons hv h1 t1 => exact .cons (vis_upto hv) (h _ _ _ h1) (t _ _ _ _ t1)
theorem FitsB.cells {n m : Nat} {a b : List AV} (h : FitsL n m a b) : FitsB n m (.cells a) (.cells b) := fun _ _ _ hr => by cases hr with | cells h1 => exact .cells (h _ _ _ h1)
theorem forgetF {G : Glob} (hG : ∀ g cs, G g = some cs → plainL cs = true) {s s' s2 : AS} {fr' fr2 : List AV} (hn : s2.nx = s.nx) (hr : s2.nr = s.nr)
   (hd : Desc s2.h s2.nx) (hbox : ∀ id b, look id s2.h = some b → ∃ b', look id s'.h = some b' ∧ FitsB s.nx s.nr b' b) (hF : ∀ r n, lookF r s2.F = some n → lookF r s'.F = some n ∧ r < s.nr)
   (hf : FitsL s.nx s.nr fr' fr2) (cx : Cx) (w : World) (c' : Cx) (w' : World) (vs : List Value) (hx : Ext cx w c' w') (hs : St G cx w s) (hs' : St G c' w' s') (hfr : RpL c' w' fr' vs) :
   ∃ c2, Ext cx w c2 w' ∧ St G c2 w' s2 ∧ RpL c2 w' fr2 vs := by
 have hphi : c'.phi.take s.nx = cx.phi := by
   obtain ⟨t, ht⟩ := hx.phi
   rw [← ht, hs.len, List.take_left]
 have hrl : (c'.rows.take s.nr).length = cx.rows.length := by
   have := hx.rlen
   rw [List.length_take, hs.rlen]; omega
 refine ⟨c'.upto s.nx s.nr, ⟨?_, ?_, fun r x hr' h => ?_, fun g i v hv => vis_upto (hx.vis g i v hv), hx.below, hx.base, hx.bad, fun g hg => hx.pnew g (List.mem_of_mem_take hg), fun r g n cap sz h => hx.rnew r g n cap sz (take_get h).1, hx.keep⟩, ?_, hf _ _ _ hfr⟩
 · show cx.phi <+: c'.phi.take s.nx
   rw [hphi]
   exact List.prefix_refl _
 · show cx.rows.length ≤ (c'.rows.take s.nr).length
   omega
 · exact hx.rows r x hr' (take_get h).1
 · refine ⟨?_, hd, fun i j g h1 h2 => hs'.nodup i j g (take_get h1).1 (take_get h2).1, fun g hg => hs'.low g (List.mem_of_mem_take hg), fun id g b h1 h2 => ?_, ?_, fun r g n cap sz h => ?_, fun r n h => ?_, fun g hg => hs'.plow g (List.mem_of_mem_take hg), hs'.blow, fun r r' g n cap sz n' cap' sz' h h' => hs'.rdist r r' g n cap sz n' cap' sz' (take_get h).1 (take_get h').1, fun g cs hg => (hs'.glob g cs hg).upto (under_plainL _ _ (hG g cs hg)), hs'.bsz⟩
   · show s2.nx = (c'.phi.take s.nx).length
     rw [hphi, hn, hs.len]
   · obtain ⟨b', h3, h4⟩ := hbox id b h2
     obtain ⟨o, ho, hb⟩ := hs'.box id g b' (take_get h1).1 h3
     exact ⟨o, ho, h4 _ _ _ hb⟩
   · show s2.nr = (c'.rows.take s.nr).length
     rw [hrl, hr, hs.rlen]
   · obtain ⟨a1, a2, a3, a4⟩ := hs'.row r g n cap sz (take_get h).1
     exact ⟨a1, a2, fun hm => a3 (List.mem_of_mem_take hm), a4⟩
   · obtain ⟨h1, h2⟩ := hF r n h
     rcases hs'.rfree r n h1 with ⟨h3, h4⟩ | ⟨g, cap, sz, h3⟩
     · exact .inl ⟨take_of h3 h2, h4⟩
     · exact .inr ⟨g, cap, sz, take_of h3 h2⟩
end AI
namespace AI
open Go Go.RowKit
section
variable {P : Program} {G : Glob} {X : Exts} {H : Hook}
def W (P : Program) (G : Glob) (X : Exts) (H : Hook) (c : Code) (fr : List AV) (s : AS) (Q : AX → List AV → AS → Prop) : Prop := ∃ e fr' s', J P G X H (.code c fr s e fr' s') ∧ Q e fr' s'
def WL (P : Program) (G : Glob) (X : Exts) (H : Hook) (c : Code) (fr : List AV) (s : AS) (Q : AX → List AV → AS → Prop) : Prop := ∃ e fr' s', J P G X H (.loop c fr s e fr' s') ∧ Q e fr' s'
def WC (P : Program) (G : Glob) (X : Exts) (H : Hook) (f : FuncId) (args : List AV) (s : AS) (Q : CR → AS → Prop) : Prop := ∃ r s', J P G X H (.call f args s r s') ∧ Q r s'
def thenQ (P : Program) (G : Glob) (X : Exts) (H : Hook) (y : Code) (Q : AX → List AV → AS → Prop) : AX → List AV → AS → Prop
 | .normal, fr, s => W P G X H y fr s Q
 | e, fr, s => Q e fr s
def blockQ (id : Nat) (Q : AX → List AV → AS → Prop) : AX → List AV → AS → Prop := fun e fr s => Q (unblock id e) fr s
def bodyQ (P : Program) (fn : Func) (n : Nat) (Q : CR → AS → Prop) : AX → List AV → AS → Prop
 | .normal, fr, s => ∃ v, aresults P s fn fr = some v ∧ Q (.ret v) (s.cut n)
 | .ret, fr, s => ∃ v, aresults P s fn fr = some v ∧ Q (.ret v) (s.cut n)
 | .pan v, _, s => Q (.pan v) (s.cut n)
 | _, _, _ => False
theorem W.mono {c : Code} {fr : List AV} {s : AS} {Q R : AX → List AV → AS → Prop} (h : W P G X H c fr s Q) (k : ∀ e fr s, Q e fr s → R e fr s) : W P G X H c fr s R := by
 obtain ⟨e, fr', s', h1, h2⟩ := h
 exact ⟨e, fr', s', h1, k _ _ _ h2⟩
theorem WC.mono {f : FuncId} {args : List AV} {s : AS} {Q R : CR → AS → Prop} (h : WC P G X H f args s Q) (k : ∀ r s, Q r s → R r s) : WC P G X H f args s R := by
 obtain ⟨r, s', h1, h2⟩ := h
 exact ⟨r, s', h1, k _ _ h2⟩
theorem W_seq {x y : Code} {fr : List AV} {s : AS} {Q : AX → List AV → AS → Prop} (h : W P G X H x fr s (thenQ P G X H y Q)) : W P G X H (.seq x y) fr s Q := by
 obtain ⟨e, fr1, s1, h1, h2⟩ := h
 cases e with
 | normal =>
   obtain ⟨e2, fr2, s2, h3, h4⟩ := h2
   exact ⟨e2, fr2, s2, .seq h1 h3, h4⟩
 | exit id => exact ⟨_, _, _, .seqX h1 (by simp), h2⟩
 | ret => exact ⟨_, _, _, .seqX h1 (by simp), h2⟩
 | pan v => exact ⟨_, _, _, .seqX h1 (by simp), h2⟩
theorem W_condT {q : Operand} {x y : Code} {fr : List AV} {s : AS} {Q : AX → List AV → AS → Prop} (hq : aeval G fr q = some (.sc (.bool true))) (h : W P G X H x fr s Q) : W P G X H (.cond q x y) fr s Q := by
 obtain ⟨e, fr1, s1, h1, h2⟩ := h
 exact ⟨e, fr1, s1, .cond hq h1, h2⟩
theorem W_condF {q : Operand} {x y : Code} {fr : List AV} {s : AS} {Q : AX → List AV → AS → Prop} (hq : aeval G fr q = some (.sc (.bool false))) (h : W P G X H y fr s Q) : W P G X H (.cond q x y) fr s Q := by
 obtain ⟨e, fr1, s1, h1, h2⟩ := h
 exact ⟨e, fr1, s1, .cond hq h1, h2⟩
theorem W_block {id : Nat} {c : Code} {fr : List AV} {s : AS} {Q : AX → List AV → AS → Prop} (h : W P G X H c fr s (blockQ id Q)) : W P G X H (.block id c) fr s Q := by
 obtain ⟨e, fr1, s1, h1, h2⟩ := h
 exact ⟨_, fr1, s1, .block h1, h2⟩
theorem W_loop {c : Code} {fr : List AV} {s : AS} {Q : AX → List AV → AS → Prop} (h : WL P G X H c fr s Q) : W P G X H (.loop c) fr s Q := by
 obtain ⟨e, fr1, s1, h1, h2⟩ := h
 exact ⟨_, fr1, s1, .loop h1, h2⟩
theorem drop_cons {α : Type} {o : α} {l m : List α} {k : Nat} (h : o :: l = m.drop k) : m[k]? = some o ∧ l = m.drop (k + 1) := by
 constructor
 · have := congrArg (fun x => x[0]?) h
   simpa using this.symm
 · have := congrArg List.tail h
   rw [List.tail_drop] at this
   exact this
theorem WC_body {f : FuncId} {fn : Func} {c : Code} {args : List AV} {s : AS} {Q : CR → AS → Prop} (hf : P.funcs[f]? = some fn) (hb : fn.body = some c) (h : W P G X H c (args ++ List.replicate (fn.ntmps - args.length) (.sc undef)) s (bodyQ P fn s.nx Q)) : WC P G X H f args s Q := by
 obtain ⟨e, fr1, s1, h1, h2⟩ := h
 cases e with
 | normal => obtain ⟨v, h3, h4⟩ := h2; exact ⟨_, _, .body hf hb h1 (.inl rfl) h3 (.inl rfl), h4⟩
 | ret => obtain ⟨v, h3, h4⟩ := h2; exact ⟨_, _, .body hf hb h1 (.inr rfl) h3 (.inl rfl), h4⟩
 | pan v => exact ⟨_, _, .bodyP hf hb h1, h2⟩
 | exit id => exact h2.elim
end
end AI
namespace AI
open Go Go.RowKit
abbrev XS (P : Program) (G : Glob) : Exts := fun f args s r s' => Sound P G (.call f args s r s')
def H0 : Hook := fun _ _ => none
theorem givenS {P : Program} {G : Glob} (h : P.follows .mixedOrders = true) : Given P G (XS P G) H0 := ⟨h, fun _ _ _ _ _ h => h, fun _ _ _ _ _ h => by cases h⟩
def Pure (P : Program) (G : Glob) (f : FuncId) (args : List AV) (v : AV) : Prop := ∀ s, Sound P G (.call f args s (.ret v) s)
def rows {α : Type} (f : α → List AV) (l : List α) : List AV := l.flatMap f
theorem rows_drop {α : Type} {f : α → List AV} {k : Nat} (hf : ∀ x, (f x).length = k) {l : List α} {i : Nat} {x : α} (h : l[i]? = some x) : (rows f l).drop (i * k) = f x ++ rows f (l.drop (i + 1)) := by
 induction l generalizing i with
 | nil => simp at h
 | cons y l ih =>
   cases i with
   | zero => simp at h; subst h; simp [rows]
   | succ i =>
     have := ih (i := i) (by simpa using h)
     have e : rows f (y :: l) = f y ++ rows f l := by simp [rows]
     rw [e, List.drop_append, hf y, show (i + 1) * k - k = i * k by rw [Nat.add_mul]; omega, List.drop_eq_nil_of_le (by rw [hf y, Nat.add_mul]; omega), List.nil_append, this]
     simp
theorem rows_len {α : Type} {f : α → List AV} {k : Nat} (hf : ∀ x, (f x).length = k) (l : List α) : (rows f l).length = l.length * k := by
 induction l with
 | nil => simp [rows]
 | cons y l ih =>
   have e : rows f (y :: l) = f y ++ rows f l := by simp [rows]
   rw [e, List.length_append, hf y, ih, List.length_cons, Nat.add_mul]; omega
theorem rows_append {α : Type} (f : α → List AV) (l m : List α) : rows f (l ++ m) = rows f l ++ rows f m := by simp [rows]
theorem rows_cons {α : Type} (f : α → List AV) (x : α) (m : List α) : rows f (x :: m) = f x ++ rows f m := by simp [rows]
theorem rows_plain {α : Type} {f : α → List AV} {l : List α} (h : ∀ x ∈ l, plainL (f x) = true) : plainL (rows f l) = true := by
 have app : ∀ a b : List AV, plainL a = true → plainL b = true → plainL (a ++ b) = true := by
   intro a b ha hb
   induction a with
   | nil => exact hb
   | cons x a ih =>
     simp only [plainL, Bool.and_eq_true, List.cons_append] at ha ⊢
     exact ⟨ha.1, ih ha.2⟩
 induction l with
 | nil => rfl
 | cons y l ih => rw [rows_cons]; exact app _ _ (h y List.mem_cons_self) (ih fun x hx => h x (List.mem_cons_of_mem _ hx))
theorem index_rows {P : Program} {α : Type} {f : α → List AV} {k : Nat} {t elem : TypeId} {e : TypeInfo} (hu : P.underlying t = some (.slice elem)) (he : P.info? elem = some e) (hk : e.size = k) (hf : ∀ x, (f x).length = k) {own : Own} {l : List α} {i : Nat} {x : α} (h : l[i]? = some x) :
   aindexAt P t (.sl own l.length (rows f l)) (.sc (.int .i64 (i : Int))) = some (.el (f x ++ rows f (l.drop (i + 1)))) := by
 have hi := (List.getElem?_eq_some_iff.1 h).1
 have hn : anat (.sc (.int .i64 (i : Int))) = some i := by
   unfold anat
   simp
 unfold aindexAt
 rw [hu, hn]
 simp only [he, hk, if_pos hi, rows_drop hf h]
theorem wrap_nat {i : Nat} (h : i ≤ 9223372036854775807) : IntKind.i64.wrap (i : Int) = (i : Int) := by
 refine IntWalk.i64_in _ ?_
 omega
end AI
namespace AI
open Go Go.RowKit
section
variable {G : Glob}
inductive NZ where
 | t (tmp sz : Nat)
 | b (id i sz : Nat)
 | l (tmp : Nat)
 | lb (id i : Nat)
def nilS : AV → Bool
 | .sl .full n cs => (match n with | 0 => (match cs with | [] => true | _ => false) | _ => false)
 | _ => false
def nz1 (fr : List AV) (s : AS) : NZ → Option (List AV × AS)
 | .t k sz => (match fr[k]? with
   | some a => (match nilS a with
     | true => some (fr.set k (.sl (.row s.nr sz) 0 []), s.tok)
     | false => none)
   | none => none)
 | .b id i sz => (match look id s.h with
   | some (.cells cs) => (match cs[i]? with
     | some a => (match nilS a with
       | true => some (fr, ⟨upd id (.cells (cs.set i (.sl (.row s.nr sz) 0 []))) s.h, s.nx, (s.nr, 0) :: s.F, s.nr + 1⟩)
       | false => none)
     | none => none)
   | _ => none)
 | .l k => (match fr[k]? with
   | some a => some (fr.set k (ungrow a), s)
   | none => none)
 | .lb id i => (match look id s.h with
   | some (.cells cs) => (match cs[i]? with
     | some a => some (fr, ⟨upd id (.cells (cs.set i (ungrow a))) s.h, s.nx, s.F, s.nr⟩)
     | none => none)
   | _ => none)
def nzs : List NZ → List AV → AS → Option (List AV × AS)
 | [], fr, s => some (fr, s)
 | z :: l, fr, s => (match nz1 fr s z with
   | some (fr, s) => nzs l fr s
   | none => none)
def Wkn (G : Glob) (fr : List AV) (s : AS) (fr2 : List AV) (s2 : AS) : Prop := ∀ (cx : Cx) (w : World) (vs : List Value), St G cx w s → RpL cx w fr vs → ∃ cx2, Ext cx w cx2 w ∧ St G cx2 w s2 ∧ RpL cx2 w fr2 vs
theorem Wkn.refl {fr : List AV} {s : AS} : Wkn G fr s fr s := fun cx w vs h1 h2 => ⟨cx, Ext.refl _ _, h1, h2⟩
theorem Wkn.trans {fr fr2 fr3 : List AV} {s s2 s3 : AS} (h : Wkn G fr s fr2 s2) (k : Wkn G fr2 s2 fr3 s3) : Wkn G fr s fr3 s3 := fun cx w vs h1 h2 => by
 obtain ⟨c2, x2, s2, r2⟩ := h cx w vs h1 h2
 obtain ⟨c3, x3, s3, r3⟩ := k c2 w vs s2 r2
 exact ⟨c3, x2.trans x3, s3, r3⟩
theorem nilS_ok {a : AV} (h : nilS a = true) {c : Cx} {w : World} {v : Value} (hr : Rp c w a v) {r sz : Nat} (hl : r < c.rows.length) : Rp c w (.sl (.row r sz) 0 []) v := by
 unfold nilS at h
 split at h
 · split at h
   · split at h
     · cases hr with
       | sl0 h0 => exact .sl0 ⟨h0, hl⟩
       | sl1 hn hc ho =>
         have : _ = 0 := ho
         subst this
         exact .sl0 ⟨rfl, hl⟩
     · cases h
   · cases h
 · cases h
theorem ungrow_ok {a : AV} {c : Cx} {w : World} {v : Value} (hr : Rp c w a v) : Rp c w (ungrow a) v := by
 cases hr with
 | sl0 _ => exact .sl0 trivial
 | sl1 hn hc ho => exact .sl1 hn hc trivial
 | sc h => exact .sc h
 | agg h => exact .agg h
 | tup h => exact .tup h
 | msl h1 h2 => exact .msl h1 h2
 | el h => exact .el h
 | ptr h => exact .ptr h
 | fn h1 h2 => exact .fn h1 h2
 | ifc h => exact .ifc h
 | mp h => exact .mp h
 | any h => exact .any h
theorem RpL.set1 {c : Cx} {w : World} {as : List AV} {vs : List Value} (h : RpL c w as vs) {i : Nat} {a b : AV} (ha : as[i]? = some a) (hb : ∀ v, Rp c w a v → Rp c w b v) : RpL c w (as.set i b) vs := by
 induction as generalizing vs i with
 | nil => simp at ha
 | cons x as ih =>
   cases h with
   | cons h1 t =>
     cases i with
     | zero => simp at ha; subst ha; exact .cons (hb _ h1) t
     | succ i => exact .cons h1 (ih t (by simpa using ha))
theorem St.redo {c : Cx} {w : World} {s : AS} (h : St G c w s) {id : Nat} {b b2 : ABlk} (hb : look id s.h = some b) (hk : ∀ o, BlkOk c w b o → BlkOk c w b2 o) : St G c w ⟨upd id b2 s.h, s.nx, s.F, s.nr⟩ :=
 ⟨h.len, upd_desc h.desc, h.nodup, h.low, fun id' g b' h1 h2 => by
   rcases upd_look h2 with ⟨rfl, rfl⟩ | ⟨_, h3⟩
   · obtain ⟨o, ho, hbo⟩ := h.box _ g b h1 hb
     exact ⟨o, ho, hk o hbo⟩
   · exact h.box id' g b' h1 h3, h.rlen, h.row, h.rfree, h.plow, h.blow, h.rdist, h.glob, h.bsz⟩
theorem nz1_ok {fr fr2 : List AV} {s s2 : AS} {z : NZ} (h : nz1 fr s z = some (fr2, s2)) : Wkn G fr s fr2 s2 := by
 intro cx w vs hs hr
 cases z with
 | t k sz =>
   simp only [nz1] at h
   split at h
   · rename_i a ha
     split at h
     · rename_i hn
       cases h
       obtain ⟨x, st⟩ := hs.tok
       refine ⟨_, x, st, (hr.mono x).set1 ha (fun v hv => nilS_ok hn hv ?_)⟩
       simp [hs.rlen]
     · cases h
   · cases h
 | b id i sz =>
   simp only [nz1] at h
   split at h
   · rename_i cs hb
     split at h
     · rename_i a ha
       split at h
       · rename_i hn
         cases h
         obtain ⟨x, st⟩ := hs.tok
         refine ⟨_, x, st.redo (b := .cells cs) hb (fun o ho => ?_), hr.mono x⟩
         cases ho with
         | cells h1 => exact .cells (h1.set1 ha (fun v hv => nilS_ok hn hv (by simp [hs.rlen])))
       · cases h
     · cases h
   · cases h
 | l k =>
   simp only [nz1] at h
   split at h
   · rename_i a ha
     cases h
     exact ⟨cx, Ext.refl _ _, hs, hr.set1 ha (fun v hv => ungrow_ok hv)⟩
   · cases h
 | lb id i =>
   simp only [nz1] at h
   split at h
   · rename_i cs hb
     split at h
     · rename_i a ha
       cases h
       refine ⟨cx, Ext.refl _ _, hs.redo (b := .cells cs) hb (fun o ho => ?_), hr⟩
       cases ho with
       | cells h1 => exact .cells (h1.set1 ha (fun v hv => ungrow_ok hv))
     · cases h
   · cases h
theorem nzs_ok : ∀ {l : List NZ} {fr fr2 : List AV} {s s2 : AS}, nzs l fr s = some (fr2, s2) → Wkn G fr s fr2 s2 := by
 intro l
 induction l with
 | nil => intro fr fr2 s s2 h; simp only [nzs] at h; cases h; exact .refl
 | cons z l ih =>
   intro fr fr2 s s2 h
   simp only [nzs] at h
   split at h
   · rename_i f1 s1 h1; exact (nz1_ok h1).trans (ih h)
   · cases h
end
end AI
namespace AI
open Go Go.RowKit
def eqV : Value → Value → Bool
 | .string a, .string b => eqB a.data.toList b.data.toList
 | .int k a, .int k' b => (match sameKind k k' with | true => eqI a b | false => false)
 | a, b => beqV a b
theorem eqV_ok {a b : Value} (h : eqV a b = true) : a = b := by
 unfold eqV at h
 split at h
 · rename_i x y
   rw [eqB_eq, beq_iff_eq] at h
   have : x = y := ByteArray.ext (Array.ext' h)
   rw [this]
 · split at h
   · rename_i hk
     rw [eqI_eq, beq_iff_eq] at h
     rw [sameKind_ok hk, h]
   · cases h
 · exact beqV_ok h
def eqOwn : Own → Own → Bool
 | .full, .full => true
 | .lost, .lost => true
 | _, _ => false
theorem eqOwn_ok {a b : Own} (h : eqOwn a b = true) : a = b := by cases a <;> cases b <;> first | rfl | cases h
mutual
def eqA : AV → AV → Bool
 | .sc a, .sc b => eqV a b
 | .agg a, .agg b => eqL a b
 | .tup a, .tup b => eqL a b
 | .sl o n a, .sl p m b => (match eqOwn o p with
   | true => (match Nat.beq n m with | true => eqL a b | false => false)
   | false => false)
 | .ifc t a, .ifc u b => (match Nat.beq t u with | true => eqA a b | false => false)
 | _, _ => false
def eqL : List AV → List AV → Bool
 | [], [] => true
 | a :: as, b :: bs => (match eqA a b with | true => eqL as bs | false => false)
 | _, _ => false
end
mutual
theorem eqA_ok : ∀ {a b : AV}, eqA a b = true → a = b
 | .sc a, b, h => by
   cases b <;> first
     | (simp only [eqA] at h; rw [eqV_ok h])
     | (simp [eqA] at h; done)
 | .agg a, b, h => by
   cases b <;> first
     | (simp only [eqA] at h; rw [eqL_ok h])
     | (simp [eqA] at h; done)
 | .tup a, b, h => by
   cases b <;> first
     | (simp only [eqA] at h; rw [eqL_ok h])
     | (simp [eqA] at h; done)
 | .sl o n a, b, h => by
   cases b <;> first
     | (simp only [eqA] at h
        split at h
        · rename_i h1
          split at h
          · rename_i h2; rw [eqOwn_ok h1, beq_true h2, eqL_ok h]
          · cases h
        · cases h)
     | (simp [eqA] at h; done)
 | .ifc t a, b, h => by
   cases b <;> first
     | (simp only [eqA] at h
        split at h
        · rename_i h1; rw [beq_true h1, eqA_ok h]
        · cases h)
     | (simp [eqA] at h; done)
 | .msl _ _ _, b, h => by simp [eqA] at h
 | .el _, b, h => by simp [eqA] at h
 | .ptr _ _, b, h => by simp [eqA] at h
 | .fn _ _ _, b, h => by simp [eqA] at h
 | .mp _, b, h => by simp [eqA] at h
 | .any, b, h => by simp [eqA] at h
theorem eqL_ok : ∀ {a b : List AV}, eqL a b = true → a = b
 | [], b, h => by cases b <;> first | rfl | (simp [eqL] at h; done)
 | a :: as, b, h => by
   cases b <;> first
     | (simp [eqL] at h; done)
     | (simp only [eqL] at h
        split at h
        · rename_i h1; rw [eqA_ok h1, eqL_ok h]
        · cases h)
end
structure Ent where
 f : Nat
 args : List AV
 box : Option (List AV × List AV)
 v : AV
def EntOk (P : Program) (G : Glob) (e : Ent) : Prop := match e.box with
 | none => ∀ s, Sound P G (.call e.f e.args s (.ret e.v) s)
 | some (cs, cs') => ∀ s id, s.get id = some (.cells cs) → Sound P G (.call e.f (.ptr id 0 :: e.args) s (.ret e.v) (s.put id (.cells cs')))
def boxHit (id : Nat) (s : AS) (args : List AV) (e : Ent) : Option (List AV × List AV) → Option (CR × AS)
 | some (cs, cs') => (match s.get id with
   | some (.cells ds) => (match eqL ds.reverse cs.reverse with
     | true => (match eqL args e.args with
       | true => some (.ret e.v, s.put id (.cells cs'))
       | false => none)
     | false => none)
   | _ => none)
 | none => none
def hit (args : List AV) (s : AS) (e : Ent) : Option (CR × AS) :=
 match args with
 | .ptr id 0 :: rest => boxHit id s rest e e.box
 | args => (match e.box with
   | none => (match eqL args.reverse e.args.reverse with
     | true => some (.ret e.v, s)
     | false => none)
   | some _ => none)
def find (f : Nat) (args : List AV) (s : AS) : List Ent → Option (CR × AS)
 | [] => none
 | e :: l => (match Nat.beq e.f f with
   | true => (match hit args s e with
     | some r => some r
     | none => find f args s l)
   | false => find f args s l)
theorem hit_ok {P : Program} {G : Glob} {args : List AV} {s s' : AS} {e : Ent} {r : CR} (he : EntOk P G e) (h : hit args s e = some (r, s')) : Sound P G (.call e.f args s r s') := by
 unfold hit at h
 split at h
 · rename_i id rest
   unfold EntOk at he
   cases hb : e.box with
   | none => rw [hb] at h; cases h
   | some q =>
     obtain ⟨cs, cs'⟩ := q
     rw [hb] at h he
     simp only [boxHit] at h
     split at h
     · rename_i ds hg
       split at h
       · rename_i h1
         split at h
         · rename_i h2
           cases h
           have e1 := List.reverse_inj.1 (eqL_ok h1)
           have e2 := eqL_ok h2
           subst e1
           rw [e2]
           exact he s id hg
         · cases h
       · cases h
     · cases h
 · unfold EntOk at he
   cases hb : e.box with
   | some q => rw [hb] at h; cases h
   | none =>
     rw [hb] at h he
     simp only at h
     split at h
     · rename_i h1
       cases h
       have e1 := List.reverse_inj.1 (eqL_ok h1)
       rw [e1]
       exact he _
     · cases h
theorem find_ok {P : Program} {G : Glob} {f : Nat} {args : List AV} {s s' : AS} {l : List Ent} {r : CR} (hl : ∀ e ∈ l, EntOk P G e) (h : find f args s l = some (r, s')) : Sound P G (.call f args s r s') := by
 induction l with
 | nil => cases h
 | cons e l ih =>
   simp only [find] at h
   split at h
   · rename_i hf
     split at h
     · rename_i q hh
       cases h
       have := hit_ok (hl e List.mem_cons_self) hh
       rw [beq_true hf] at this
       exact this
     · exact ih (fun e he => hl e (List.mem_cons_of_mem _ he)) h
   · exact ih (fun e he => hl e (List.mem_cons_of_mem _ he)) h
def runIs (e : Ent) : Option Rs → Bool
 | some (.call (.ret v) s) => (match boxless v with
   | true => (match eqA (lose v) e.v with
     | true => (match e.box with
       | none => true
       | some (_, cs') => (match s.get 0 with
         | some (.cells ds) => (match boxlessL ds with
           | true => eqL (loseL ds) cs'
           | false => false)
         | _ => false))
     | false => false)
   | false => false)
 | _ => false
def startOf (e : Ent) : Tk := match e.box with
 | none => .call e.f e.args s0
 | some (cs, _) => .call e.f (.ptr 0 0 :: e.args) ⟨[(0, .cells cs)], 1, [], 0⟩
def entPlain (e : Ent) : Bool := plainL e.args && (match e.box with
 | none => true
 | some (cs, _) => plainL cs)
theorem ent_ok {P : Program} {G : Glob} {X : ExtsF} {H : Hook} (hg : Given P G (XP X) H) (hG : ∀ g cs, G g = some cs → plainL cs = true) {n : Nat} {e : Ent} (hp : entPlain e = true) (h : runIs e (goR P G X H n (startOf e)) = true) : EntOk P G e := by
 unfold entPlain at hp
 rw [Bool.and_eq_true] at hp
 cases hr : goR P G X H n (startOf e) with
 | none => rw [hr] at h; cases h
 | some rs =>
   rw [hr] at h
   have hrt := goR_ok n _ _ hr
   cases rs with
   | code e fr s => cases h
   | tr t fr s => cases h
   | call c s =>
     cases c with
     | pan v => cases h
     | ret v =>
       simp only [runIs] at h
       split at h
       · rename_i hb
         split at h
         · rename_i he
           have ev := eqA_ok he
           unfold EntOk
           cases hbx : e.box with
           | none =>
             intro s'
             unfold startOf at hrt
             rw [hbx] at hrt
             have := closed_call hG (sound hg hrt) hp.1 hb s'
             rw [ev] at this
             exact this
           | some q =>
             obtain ⟨cs, cs'⟩ := q
             intro s' id hid
             unfold startOf at hrt
             rw [hbx] at hrt h hp
             simp only at h hp
             split at h
             · rename_i ds hds
               split at h
               · rename_i hbd
                 have ec := eqL_ok h
                 have := closed_meth hG (sound hg hrt) hds hp.1 hp.2 hb hbd s' id hid
                 rw [ev, ec] at this
                 exact this
               · cases h
             · cases h
         · cases h
       · cases h
theorem AllOk.cons {P : Program} {G : Glob} {e : Ent} {l : List Ent} (he : EntOk P G e) (hl : ∀ e ∈ l, EntOk P G e) : ∀ e' ∈ e :: l, EntOk P G e' := fun e' h => by
 rcases List.mem_cons.1 h with h | h
 · rw [h]; exact he
 · exact hl e' h
end AI
namespace AI
open Go Go.RowKit
inductive Hn where
 | k
 | b (b : Bool)
 | i (z : Int)
 | w (v : AV)
 | a (v : AV) (s : AS)
 | m (s : AS)
 | l (v : AV)
 | s (s : AS)
 | c (v : AV) (s : AS)
 | o (v : AV)
 | z (c : Nat)
 | p (v : AV) (s : AS)
 | g (sz k : Nat) (cs : List AV)
 | u (v : AV) (pre : List (Nat × ABlk)) (tp : List (Nat × Nat)) (ups : List (Nat × ABlk)) (tu : List (Nat × Nat))
 | q (v : AV) (pre : List (Nat × ABlk)) (tp : List (Nat × Nat)) (ups : List (Nat × ABlk)) (tu : List (Nat × Nat))
 | n (l : List NZ)
 | x (b : ABlk) (v : AV)
 | y (b b2 : ABlk)
 | lb (m : ABlk) (v : AV)
 | sb (m m2 : ABlk)
 | mb (n : Nat) (m : ABlk)
 | za
 | cn (v : AV) (h : List (Nat × ABlk)) (dn : Nat) (F : List (Nat × Nat)) (dr : Nat)
inductive Cd where
 | eqb (B b : Bool)
 | eqi (X z : Int)
 | idx (t : TypeId) (a b v : AV)
 | bin (op : BinOp) (t : TypeId) (x y : Operand) (a b v : AV)
 | call (f : FuncId) (args : List AV) (s : AS) (v : AV)
 | app (s : AS) (t tx : TypeId) (a b v : AV) (s1 : AS)
 | ix (t : TypeId) (a b v : AV)
 | lk (s : AS) (t : TypeId) (a b : AV) (ok : Bool) (v : AV)
 | ms (s : AS) (t : TypeId) (a b v : AV) (s1 : AS)
 | callS (f : FuncId) (args : List AV) (s : AS) (v : AV) (s1 : AS)
 | ld (s : AS) (t : TypeId) (a v : AV)
 | st (s : AS) (t : TypeId) (a x : AV) (s1 : AS)
 | mk (s : AS) (t : TypeId) (a b v : AV) (s1 : AS)
 | sli (t : TypeId) (a : AV) (l h m : Option AV) (v : AV)
 | callP (f : FuncId) (args : List AV) (s : AS) (v : AV) (s1 : AS)
 | pur (f : FuncId) (args : List AV) (v : AV)
 | gro (t tx : TypeId) (own : Own) (n : Nat) (cs : List AV) (b : AV) (sz k : Nat) (cs2 : List AV)
 | eqn (k n : Nat)
 | callU (f : FuncId) (args : List AV) (r : CR) (pre : List (Nat × ABlk)) (tp : List (Nat × Nat)) (ups : List (Nat × ABlk)) (tu : List (Nat × Nat))
 | eqx (a b : List (Option ABlk)) (c d : List (Option Nat))
 | lkB (b : ABlk) (t : TypeId) (k : AV) (ok : Bool) (v : AV)
 | msB (b : ABlk) (t : TypeId) (k v : AV) (b2 : ABlk)
 | ldB (b : ABlk) (t : TypeId) (off : Nat) (v : AV)
 | stB (b : ABlk) (t : TypeId) (off : Nat) (x : AV) (b2 : ABlk)
 | mkB (t : TypeId) (a x : AV) (n : Nat) (m : ABlk)
 | callN (f : FuncId) (args : List AV) (nx nr : Nat) (v : AV) (h : List (Nat × ABlk)) (dn : Nat) (F : List (Nat × Nat)) (dr : Nat)
def AS.upds (s : AS) : List (Nat × ABlk) → AS
 | [] => s
 | e :: l => (s.put e.1 e.2).upds l
def AS.grows (s : AS) : List (Nat × Nat) → AS
 | [] => s
 | e :: l => (AS.mk s.h s.nx (setF e.1 e.2 s.F) s.nr).grows l
def getsB (s : AS) : List (Nat × ABlk) → List (Option ABlk)
 | [] => []
 | e :: l => s.get e.1 :: getsB s l
def wantB : List (Nat × ABlk) → List (Option ABlk)
 | [] => []
 | e :: l => some e.2 :: wantB l
def getsF (F : List (Nat × Nat)) : List (Nat × Nat) → List (Option Nat)
 | [] => []
 | e :: l => lookF e.1 F :: getsF F l
def wantF : List (Nat × Nat) → List (Option Nat)
 | [] => []
 | e :: l => some e.2 :: wantF l
def Cd.ok (P : Program) (G : Glob) : Cd → Prop
 | .eqb B b => B = b
 | .eqi X z => X = z
 | .idx t a b v => aindexAt P t a b = some v
 | .bin op t x y a b v => abin P op t x y a b = some v
 | .call f args s v => Sound P G (.call f args s (.ret v) s)
 | .app s t tx a b v s1 => ∃ v0, aappend P s t tx a b = some (v0, s1) ∧ ∀ c w u, Rp c w v0 u → Rp c w v u
 | .ix t a b v => aindex P t a b = some v
 | .lk s t a b ok v => alookup P s t a b ok = some v
 | .ms s t a b v s1 => amapSet P s t a b v = some s1
 | .callS f args s v s1 => Sound P G (.call f args s (.ret v) s1)
 | .ld s t a v => aload P s t a = some v
 | .st s t a x s1 => astore P s t a x = some s1
 | .mk s t a b v s1 => amakeSlice P s t a b = some (v, s1)
 | .sli t a l h m v => aslice P t a l h m = some v
 | .callP f args s v s1 => Sound P G (.call f args s (.pan v) s1)
 | .pur f args v => ∀ s, Sound P G (.call f args s (.ret v) s)
 | .gro t tx own n cs b sz k cs2 => ∀ s : AS, okOwn sz s.F n own = true → ∃ cs0, aappend P s t tx (.sl own n cs) b = some (.sl (ownTo s sz own) k cs0, s.to k own) ∧ ∀ c w u o, Rp c w (.sl o k cs0) u → Rp c w (.sl o k cs2) u
 | .eqn k n => k = n
 | .callU f args r pre tp ups tu => ∀ s : AS, getsB s pre = wantB pre → getsF s.F tp = wantF tp → Sound P G (.call f args s r ((s.upds ups).grows tu))
 | .eqx a b c d => a = b ∧ c = d
 | .lkB b t k ok v => ∀ (s : AS) (id : Nat), s.get id = some b → alookup P s t (.mp id) k ok = some v
 | .msB b t k v b2 => ∀ (s : AS) (id : Nat), s.get id = some b → amapSet P s t (.mp id) k v = some (s.put id b2)
 | .ldB b t off v => ∀ (s : AS) (id : Nat), s.get id = some b → aload P s t (.ptr id off) = some v
 | .stB b t off x b2 => ∀ (s : AS) (id : Nat), s.get id = some b → astore P s t (.ptr id off) x = some (s.put id b2)
 | .mkB t a x n m => ∀ s : AS, amakeSlice P s t a x = some (.msl s.nx 0 n, s.new m)
 | .callN f args nx nr v h dn F dr => ∀ s : AS, s.nx = nx → s.nr = nr → Sound P G (.call f args s (.ret v) ⟨h ++ s.h, s.nx + dn, F ++ s.F, s.nr + dr⟩)
def Cds (P : Program) (G : Glob) : List Cd → Prop
 | [] => True
 | c :: l => c.ok P G ∧ Cds P G l
theorem Cds.app {P : Program} {G : Glob} {l m : List Cd} (h : Cds P G (l ++ m)) : Cds P G l ∧ Cds P G m := by
 induction l with
 | nil => exact ⟨trivial, h⟩
 | cons c l ih => exact ⟨⟨h.1, (ih h.2).1⟩, (ih h.2).2⟩
abbrev HO := Option (AV × AS × List Hn × List Cd)
def hPlain (s1 : Option AR) (hs : List Hn) : HO := match s1 with
 | some (.val v s) => some (v, s, hs, [])
 | _ => none
def hBin (P : Program) (op : BinOp) (t : TypeId) (x y : Operand) (a b : AV) (s : AS) : List Hn → HO
 | .k :: hs => (match abinF P op t x y a b with
   | some v => some (v, s, hs, [])
   | none => none)
 | .b c :: hs => (match abinF P op t x y a b with
   | some (.sc (.bool B)) => some (.sc (.bool c), s, hs, [.eqb B c])
   | _ => none)
 | .i z :: hs => (match abinF P op t x y a b with
   | some (.sc (.int k X)) => some (.sc (.int k z), s, hs, [.eqi X z])
   | _ => none)
 | .w v :: hs => some (v, s, hs, [.bin op t x y a b v])
 | _ => none
def hIdx (P : Program) (t : TypeId) (a b : AV) (s : AS) : List Hn → HO
 | .k :: hs => (match aindexAt P t a b with
   | some v => some (v, s, hs, [])
   | none => none)
 | .w v :: hs => some (v, s, hs, [.idx t a b v])
 | _ => none
def hCall (s : AS) (r : Option AR) : List Hn → HO
 | .w v :: hs => (match r with
   | some (.ent f args) => some (v, s, hs, [.pur f args v])
   | _ => none)
 | .a v s1 :: hs => (match r with
   | some (.ent f args) => some (v, s1, hs, [.callS f args s v s1])
   | _ => none)
 | .u v pre tp ups tu :: hs => (match r with
   | some (.ent f args) => some (v, (s.upds ups).grows tu, hs, [.callU f args (.ret v) pre tp ups tu, .eqx (getsB s pre) (wantB pre) (getsF s.F tp) (wantF tp)])
   | _ => none)
 | .cn v h dn F dr :: hs => (match r with
   | some (.ent f args) => some (v, ⟨h ++ s.h, s.nx + dn, F ++ s.F, s.nr + dr⟩, hs, [.callN f args s.nx s.nr v h dn F dr])
   | _ => none)
 | _ => none
def hApp (s : AS) (t tx : TypeId) (a b : AV) : List Hn → HO
 | .a v s1 :: hs => some (v, s1, hs, [.app s t tx a b v s1])
 | .g sz k cs2 :: hs => (match a with
   | .sl .full n cs => some (.sl (.row s.nr sz) k cs2, s.add k, hs, [.gro t tx .full n cs b sz k cs2])
   | .sl (.row r z) n cs => (match lookF r s.F with
     | some m => (match Nat.beq z sz with
       | true => some (.sl (.row r sz) k cs2, s.grow r k, hs, [.gro t tx (.row r z) n cs b sz k cs2, .eqn m n])
       | false => none)
     | none => none)
   | _ => none)
 | _ => none
def hStr (P : Program) (t : TypeId) (a b : AV) (s : AS) : List Hn → HO
 | .k :: hs => (match aindex P t a b with
   | some v => some (v, s, hs, [])
   | none => none)
 | .w v :: hs => some (v, s, hs, [.ix t a b v])
 | _ => none
def hLook (t : TypeId) (a b : AV) (ok : Bool) (s : AS) : List Hn → HO
 | .w v :: hs => some (v, s, hs, [.lk s t a b ok v])
 | .x m v :: hs => (match a with
   | .mp id => some (v, s, hs, [.lkB m t b ok v, .eqx [s.get id] [some m] [] []])
   | _ => none)
 | _ => none
def hSet (t : TypeId) (a b v : AV) (s : AS) : List Hn → HO
 | .m s1 :: hs => some (.sc undef, s1, hs, [.ms s t a b v s1])
 | .y m m2 :: hs => (match a with
   | .mp id => some (.sc undef, s.put id m2, hs, [.msB m t b v m2, .eqx [s.get id] [some m] [] []])
   | _ => none)
 | _ => none
def hLoad (t : TypeId) (a : Option AV) (s : AS) (r : Option AR) : List Hn → HO
 | .l v :: hs => (match a with
   | some a => some (v, s, hs, [.ld s t a v])
   | none => none)
 | .lb m v :: hs => (match a with
   | some (.ptr id off) => some (v, s, hs, [.ldB m t off v, .eqx [s.get id] [some m] [] []])
   | _ => none)
 | hs => hPlain r hs
def hStore (t : TypeId) (a x : Option AV) (s : AS) (r : Option AR) : List Hn → HO
 | .s s1 :: hs => (match a, x with
   | some a, some x => some (.sc undef, s1, hs, [.st s t a x s1])
   | _, _ => none)
 | .sb m m2 :: hs => (match a, x with
   | some (.ptr id off), some x => some (.sc undef, s.put id m2, hs, [.stB m t off x m2, .eqx [s.get id] [some m] [] []])
   | _, _ => none)
 | hs => hPlain r hs
def hMake (t : TypeId) (a x : Option AV) (s : AS) (r : Option AR) : List Hn → HO
 | .c v s1 :: hs => (match a, x with
   | some a, some x => some (v, s1, hs, [.mk s t a x v s1])
   | _, _ => none)
 | .mb n m :: hs => (match a, x with
   | some a, some x => some (.msl s.nx 0 n, s.new m, hs, [.mkB t a x n m])
   | _, _ => none)
 | hs => hPlain r hs
def hSli (t : TypeId) (a : Option AV) (l h m : Option (Option AV)) (s : AS) (r : Option AR) : List Hn → HO
 | .o v :: hs => (match a, l, h, m with
   | some a, some l, some h, some m => some (v, s, hs, [.sli t a l h m v])
   | _, _, _, _ => none)
 | hs => hPlain r hs
def hDo (P : Program) (G : Glob) (fr : List AV) (s : AS) (o : Oper) (hs : List Hn) : HO :=
 match o.op with
 | .binOp op t x y _ => (match aevalF G fr x with
   | some a => (match aevalF G fr y with
     | some b => hBin P op t x y a b s hs
     | none => none)
   | none => none)
 | .indexAddr t x i => (match aevalF G fr x with
   | some a => (match aevalF G fr i with
     | some b => hIdx P t a b s hs
     | none => none)
   | none => none)
 | .index t x i => (match aevalF G fr x with
   | some a => (match aevalF G fr i with
     | some b => hStr P t a b s hs
     | none => none)
   | none => none)
 | .lookup t x k ok => (match aevalF G fr x with
   | some a => (match aevalF G fr k with
     | some b => hLook t a b ok s hs
     | none => none)
   | none => none)
 | .mapUpdate t m k x => (match aevalF G fr m with
   | some a => (match aevalF G fr k with
     | some b => (match aevalF G fr x with
       | some v => hSet t a b v s hs
       | none => none)
     | none => none)
   | none => none)
 | .load t x => hLoad t (aeval G fr x) s (aopF P G fr s o) hs
 | .store t x y => hStore t (aeval G fr x) (aeval G fr y) s (aopF P G fr s o) hs
 | .makeSlice t x y => hMake t (aeval G fr x) (aeval G fr y) s (aopF P G fr s o) hs
 | .slice t x lo hi mx => hSli t (aeval G fr x) (evo G fr lo) (evo G fr hi) (evo G fr mx) s (aopF P G fr s o) hs
 | .call cl => (match cl.callee with
   | .value _ => hCall s (aopF P G fr s o) hs
   | .builtin .append => (match cl.args.toList, cl.argTypes.toList with
     | [x, y], [t, tx] => (match aevalF G fr x with
       | some a => (match aevalF G fr y with
         | some b => hApp s t tx a b hs
         | none => none)
       | none => none)
     | _, _ => none)
   | _ => hPlain (aopF P G fr s o) hs)
 | _ => hPlain (aopF P G fr s o) hs
def hOp (P : Program) (G : Glob) (ops : Array Oper) (fr : List AV) (s : AS) (o : Oper) (hs : List Hn) : HO :=
 match awanted ops fr o with
 | true => hDo P G fr s o hs
 | false => some (.sc undef, s, hs, [])
section
variable {P : Program} {G : Glob} {ops : Array Oper}
theorem hPlain_ok {r : Option AR} {hs hs' : List Hn} {v : AV} {s : AS} {cd : List Cd} (h : hPlain r hs = some (v, s, hs', cd)) : r = some (.val v s) := by
 unfold hPlain at h
 split at h
 · cases h; rfl
 · cases h
theorem hLoad_ok {t : TypeId} {a : Option AV} {r : Option AR} {hs hs' : List Hn} {v : AV} {s s1 : AS} {cd : List Cd} (h : hLoad t a s r hs = some (v, s1, hs', cd)) (hc : Cds P G cd) : (∃ a', a = some a' ∧ aload P s t a' = some v ∧ s1 = s) ∨ hPlain r hs = some (v, s1, hs', cd) := by
 unfold hLoad at h
 split at h
 · split at h
   · cases h; exact .inl ⟨_, rfl, hc.1, rfl⟩
   · cases h
 · split at h
   · cases h; exact .inl ⟨_, rfl, hc.1 _ _ (List.cons.inj hc.2.1.1).1, rfl⟩
   · cases h
 · exact .inr h
theorem hStore_ok {t : TypeId} {a x : Option AV} {r : Option AR} {hs hs' : List Hn} {v : AV} {s s1 : AS} {cd : List Cd} (h : hStore t a x s r hs = some (v, s1, hs', cd)) (hc : Cds P G cd) : (∃ a' x', a = some a' ∧ x = some x' ∧ astore P s t a' x' = some s1 ∧ v = .sc undef) ∨ hPlain r hs = some (v, s1, hs', cd) := by
 unfold hStore at h
 split at h
 · split at h
   · cases h; exact .inl ⟨_, _, rfl, rfl, hc.1, rfl⟩
   · cases h
 · split at h
   · cases h; exact .inl ⟨_, _, rfl, rfl, hc.1 _ _ (List.cons.inj hc.2.1.1).1, rfl⟩
   · cases h
 · exact .inr h
theorem hMake_ok {t : TypeId} {a x : Option AV} {r : Option AR} {hs hs' : List Hn} {v : AV} {s s1 : AS} {cd : List Cd} (h : hMake t a x s r hs = some (v, s1, hs', cd)) (hc : Cds P G cd) : (∃ a' x', a = some a' ∧ x = some x' ∧ amakeSlice P s t a' x' = some (v, s1)) ∨ hPlain r hs = some (v, s1, hs', cd) := by
 unfold hMake at h
 split at h
 · split at h
   · cases h; exact .inl ⟨_, _, rfl, rfl, hc.1⟩
   · cases h
 · split at h
   · cases h; exact .inl ⟨_, _, rfl, rfl, hc.1 _⟩
   · cases h
 · exact .inr h
theorem hSli_ok {t : TypeId} {a : Option AV} {l k m : Option (Option AV)} {r : Option AR} {hs hs' : List Hn} {v : AV} {s s1 : AS} {cd : List Cd} (h : hSli t a l k m s r hs = some (v, s1, hs', cd)) (hc : Cds P G cd) : (∃ a' l' k' m', a = some a' ∧ l = some l' ∧ k = some k' ∧ m = some m' ∧ aslice P t a' l' k' m' = some v ∧ s1 = s) ∨ hPlain r hs = some (v, s1, hs', cd) := by
 unfold hSli at h
 split at h
 · split at h
   · cases h; exact .inl ⟨_, _, _, _, rfl, rfl, rfl, rfl, hc.1, rfl⟩
   · cases h
 · exact .inr h
theorem hDo_ok {fr : List AV} {s s1 : AS} {o : Oper} {hs hs' : List Hn} {v : AV} {cd : List Cd} (hw : awanted ops fr o = true) (h : hDo P G fr s o hs = some (v, s1, hs', cd)) (hc : Cds P G cd) : J P G (XS P G) H0 (.op ops o fr s (.ret v) s1) := by
 have plainC : hPlain (aopF P G fr s o) hs = some (v, s1, hs', cd) → J P G (XS P G) H0 (.op ops o fr s (.ret v) s1) := fun h => by
   have := hPlain_ok h
   rw [aopF_eq] at this
   exact .opVal hw this
 unfold hDo at h
 split at h
 · rename_i op t x y z ho
   rw [aevalF_eq, aevalF_eq] at h
   split at h
   · rename_i a ha
     split at h
     · rename_i b hb
       have fin : ∀ v', abin P op t x y a b = some v' → s1 = s → v = v' → J P G (XS P G) H0 (.op ops o fr s (.ret v) s1) := by
         intro v' h1 h2 h3
         subst h2 h3
         refine .opVal hw ?_
         unfold aop
         rw [ho]
         simp only [ha, hb, h1, Option.map_some]
       unfold hBin at h
       rw [abinF_eq] at h
       split at h
       · split at h
         · rename_i h1; cases h; exact fin _ h1 rfl rfl
         · cases h
       · split at h
         · rename_i h1; cases h
           have e : _ = _ := hc.1
           subst e
           exact fin _ h1 rfl rfl
         · cases h
       · split at h
         · rename_i h1; cases h
           have e : _ = _ := hc.1
           subst e
           exact fin _ h1 rfl rfl
         · cases h
       · cases h; exact fin _ hc.1 rfl rfl
       · cases h
     · cases h
   · cases h
 · rename_i t x i ho
   rw [aevalF_eq, aevalF_eq] at h
   split at h
   · rename_i a ha
     split at h
     · rename_i b hb
       have fin : ∀ v', aindexAt P t a b = some v' → s1 = s → v = v' → J P G (XS P G) H0 (.op ops o fr s (.ret v) s1) := by
         intro v' h1 h2 h3
         subst h2 h3
         refine .opVal hw ?_
         unfold aop
         rw [ho]
         simp only [ha, hb, h1, Option.map_some]
       unfold hIdx at h
       split at h
       · split at h
         · rename_i h1; cases h; exact fin _ h1 rfl rfl
         · cases h
       · cases h; exact fin _ hc.1 rfl rfl
       · cases h
     · cases h
   · cases h
 · rename_i t x i ho
   rw [aevalF_eq, aevalF_eq] at h
   split at h
   · rename_i a ha
     split at h
     · rename_i b hb
       have fin : ∀ v', aindex P t a b = some v' → s1 = s → v = v' → J P G (XS P G) H0 (.op ops o fr s (.ret v) s1) := by
         intro v' h1 h2 h3
         subst h2 h3
         refine .opVal hw ?_
         unfold aop
         rw [ho]
         simp only [ha, hb, h1, Option.map_some]
       unfold hStr at h
       split at h
       · split at h
         · rename_i h1; cases h; exact fin _ h1 rfl rfl
         · cases h
       · cases h; exact fin _ hc.1 rfl rfl
       · cases h
     · cases h
   · cases h
 · rename_i t x k ok ho
   rw [aevalF_eq, aevalF_eq] at h
   split at h
   · rename_i a ha
     split at h
     · rename_i b hb
       have h1 : alookup P s t a b ok = some v ∧ s1 = s := by
         unfold hLook at h
         split at h
         · cases h
           exact ⟨hc.1, rfl⟩
         · split at h
           · cases h
             refine ⟨hc.1 _ _ ?_, rfl⟩
             have h2 := hc.2.1.1
             simpa using h2
           · cases h
         · cases h
       obtain ⟨h1, rfl⟩ := h1
       refine .opVal hw ?_
       unfold aop
       rw [ho]
       simp only [ha, hb, h1, Option.map_some]
     · cases h
   · cases h
 · rename_i t m k x ho
   rw [aevalF_eq, aevalF_eq, aevalF_eq] at h
   split at h
   · rename_i a ha
     split at h
     · rename_i b hb
       split at h
       · rename_i x' hx
         have h1 : amapSet P s t a b x' = some s1 ∧ v = .sc undef := by
           unfold hSet at h
           split at h
           · cases h
             exact ⟨hc.1, rfl⟩
           · split at h
             · cases h
               refine ⟨hc.1 _ _ ?_, rfl⟩
               have h2 := hc.2.1.1
               simpa using h2
             · cases h
           · cases h
         obtain ⟨h1, rfl⟩ := h1
         refine .opVal hw ?_
         unfold aop
         rw [ho]
         simp only [ha, hb, hx, h1, Option.map_some]
       · cases h
     · cases h
   · cases h
 · rename_i t x ho
   rcases hLoad_ok h hc with ⟨a, ha, h1, rfl⟩ | h1
   · refine .opVal hw ?_
     unfold aop
     rw [ho]
     simp only [ha, Option.bind_some, h1, Option.map_some]
   · exact plainC h1
 · rename_i t x y ho
   rcases hStore_ok h hc with ⟨a, b, ha, hb, h1, rfl⟩ | h1
   · refine .opVal hw ?_
     unfold aop
     rw [ho]
     simp only [ha, hb, h1, Option.map_some]
   · exact plainC h1
 · rename_i t x y ho
   rcases hMake_ok h hc with ⟨a, b, ha, hb, h1⟩ | h1
   · refine .opVal hw ?_
     unfold aop
     rw [ho]
     simp only [ha, hb, h1, Option.map_some]
   · exact plainC h1
 · rename_i t x lo hi mx ho
   rcases hSli_ok h hc with ⟨a, l, k, m, ha, hl, hk, hm, h1, rfl⟩ | h1
   · refine .opVal hw ?_
     unfold aop
     rw [ho]
     simp only [ha, hl, hk, hm, h1, Option.map_some]
   · exact plainC h1
 · rename_i cl ho
   split at h
   · unfold hCall at h
     split at h
     · split at h
       · rename_i h1
         cases h
         rw [aopF_eq] at h1
         exact .opCall hw h1 (.ext (hc.1 s))
       · cases h
     · split at h
       · rename_i h1
         cases h
         rw [aopF_eq] at h1
         exact .opCall hw h1 (.ext hc.1)
       · cases h
     · split at h
       · rename_i h1
         cases h
         rw [aopF_eq] at h1
         exact .opCall hw h1 (.ext (hc.1 s hc.2.1.1 hc.2.1.2))
       · cases h
     · split at h
       · rename_i h1
         cases h
         rw [aopF_eq] at h1
         exact .opCall hw h1 (.ext (hc.1 s rfl rfl))
       · cases h
     · cases h
   · rename_i hcl
     split at h
     · rename_i x y t tx hxs hts
       rw [aevalF_eq, aevalF_eq] at h
       split at h
       · rename_i a ha
         split at h
         · rename_i b hb
           have fin : ∀ v0, aappend P s t tx a b = some (v0, s1) → (∀ c w u, Rp c w v0 u → Rp c w v u) → J P G (XS P G) H0 (.op ops o fr s (.ret v) s1) := by
             intro v0 h1 h2
             refine .opWeak (v := v0) ?_ (.opVal hw ?_) h2
             · simp only [quiet, ho, hcl]
             · unfold aop
               rw [ho]
               simp only [acall, hcl, hxs, hts, ha, hb, h1, Option.map_some]
           unfold hApp at h
           split at h
           · cases h
             obtain ⟨v0, h1, h2⟩ := hc.1
             exact fin v0 h1 h2
           · split at h
             · cases h
               obtain ⟨cs0, h1, h2⟩ := hc.1 s rfl
               exact fin _ h1 (fun c w u => h2 c w u _)
             · rename_i r z n cs
               split at h
               · rename_i m hm
                 split at h
                 · rename_i hz
                   have hz := beq_true hz
                   subst hz
                   cases h
                   have e : m = n := hc.2.1
                   subst e
                   obtain ⟨cs0, h1, h2⟩ := hc.1 s (by simp [okOwn, hm])
                   exact fin _ h1 (fun c w u => h2 c w u _)
                 · cases h
               · cases h
             · cases h
           · cases h
         · cases h
       · cases h
     · cases h
   · exact plainC h
 · exact plainC h
theorem hOp_ok {fr : List AV} {s s1 : AS} {o : Oper} {hs hs' : List Hn} {v : AV} {cd : List Cd} (h : hOp P G ops fr s o hs = some (v, s1, hs', cd)) (hc : Cds P G cd) : J P G (XS P G) H0 (.op ops o fr s (.ret v) s1) := by
 unfold hOp at h
 split at h
 · rename_i hw; exact hDo_ok hw h hc
 · rename_i hw; cases h; exact .opSkip hw
end
end AI
namespace AI
open Go Go.RowKit
def isVal (op : Op) : Bool := match op with
 | .call cl => (match cl.callee with | .value _ => true | _ => false)
 | _ => false
def isA : List Hn → Bool
 | .a _ _ :: _ => true
 | .u _ _ _ _ _ :: _ => true
 | .cn _ _ _ _ _ :: _ => true
 | _ => false
def hOpC (P : Program) (G : Glob) (ops : Array Oper) (fr : List AV) (s : AS) (o : Oper) (hs : List Hn) : HO := match isVal o.op with
 | true => (match isA hs with
   | true => none
   | false => hOp P G ops fr s o hs)
 | false => hOp P G ops fr s o hs
theorem hOpC_ok {P : Program} {G : Glob} {ops : Array Oper} {fr : List AV} {s : AS} {o : Oper} {hs : List Hn} {r : AV × AS × List Hn × List Cd} (h : hOpC P G ops fr s o hs = some r) : hOp P G ops fr s o hs = some r ∧ (isVal o.op = true → isA hs = false) := by
 unfold hOpC at h
 split at h
 · split at h
   · cases h
   · rename_i h1; exact ⟨h, fun _ => h1⟩
 · rename_i h1; exact ⟨h, fun h2 => by rw [h1] at h2; cases h2⟩
abbrev HT := Option (List Hn × List Cd × List (List AV × AS × AV) × List AV × AS)
def hTrK (cd : List Cd) (x : List AV × AS × AV) : HT → HT
 | some (hs, cd', t, fr, s) => some (hs, cd ++ cd', x :: t, fr, s)
 | none => none
def hTr (P : Program) (G : Glob) (ops : Array Oper) : List Oper → Nat → List Hn → List AV → AS → HT
 | [], _, hs, fr, s => some (hs, [], [], fr, s)
 | o :: l, q, hs, fr, s => (match isAlloc o.op with
   | true => hTrK [] (fr, s, allocV ops fr o q) (hTr P G ops l (q + 1) hs (aput fr o.dst (allocV ops fr o q)) s)
   | false => (match hOpC P G ops fr s o hs with
     | some (v, s1, hs1, cd) => hTrK cd (fr, s, v) (hTr P G ops l q hs1 (aput fr o.dst v) s1)
     | none => none))
def farV (q0 : Nat) : Option AV → Bool
 | some (.el _) => true
 | some (.ptr id _) => Nat.blt id q0
 | _ => false
def newV (q0 : Nat) : Option AV → Bool
 | some (.ptr id _) => Nat.ble q0 id
 | _ => false
def slV : Option AV → Bool
 | some (.sl _ _ _) => true
 | some (.sc (.string _)) => true
 | _ => false
def indep (G : Glob) (q0 : Nat) (fr : List AV) (o : Oper) : Bool := match o.op with
 | .load _ a => farV q0 (aevalF G fr a)
 | .lookup .. => false
 | .store _ a _ => newV q0 (aevalF G fr a)
 | .call cl => (match cl.callee with
   | .value _ => true
   | .builtin .len => (match cl.args.toList with
     | [x] => slV (aevalF G fr x)
     | _ => false)
   | _ => quiet o.op)
 | .alloc _ => true
 | op => quiet op
def indepL (G : Glob) (ops : Array Oper) (q0 : Nat) : List Oper → List (List AV × AS × AV) → Bool
 | o :: os, t :: ts => (match awanted ops t.1 o with
   | false => indepL G ops q0 os ts
   | true => (match indep G q0 t.1 o with
     | true => indepL G ops q0 os ts
     | false => false))
 | _, _ => true
def Far (q0 : Nat) (s s' : AS) : Prop := ∀ id, id < q0 → s'.get id = s.get id
theorem look_upd_ne {id id' : Nat} {b : ABlk} (h : id' ≠ id) : ∀ (l : List (Nat × ABlk)), look id' (upd id b l) = look id' l
 | [] => rfl
 | e :: l => by
   simp only [upd]
   split
   · rename_i hb
     have hb := beq_true hb
     simp only [look]
     have h1 : Nat.beq id id' = false := by cases hq : Nat.beq id id' with
       | true => exact absurd (beq_true hq).symm h
       | false => rfl
     rw [hb, h1]
   · simp only [look, look_upd_ne h l]
section
variable {P : Program} {G : Glob} {ops : Array Oper}
theorem hOp_far {q0 : Nat} {fr : List AV} {s s1 : AS} {o : Oper} {hs hs' : List Hn} {v : AV} {cd : List Cd} (h : hOp P G ops fr s o hs = some (v, s1, hs', cd)) (hA : isVal o.op = true → isA hs = false) (hi : awanted ops fr o = true → indep G q0 fr o = true) (hc : Cds P G cd) (ha : isAlloc o.op = false) : Far q0 s s1 := by
 intro id hid
 have hj := hOp_ok h hc
 cases hq : quiet o.op with
 | true => rw [(quiet_inv hq hj).1]
 | false =>
   unfold hOp at h
   split at h
   · rename_i hw
     have hi := hi hw
     unfold indep at hi
     split at hi
     · rename_i t a ho; rw [ho] at hq; cases hq
     · cases hi
     · rename_i t a x ho
       unfold hDo at h
       rw [ho] at h
       simp only at h
       have h1 : ∃ a' x', aeval G fr a = some a' ∧ aeval G fr x = some x' ∧ astore P s t a' x' = some s1 := by
         rcases hStore_ok h hc with ⟨a', x', h2, h3, h4, _⟩ | h2
         · exact ⟨a', x', h2, h3, h4⟩
         · have h1 := hPlain_ok h2
           rw [aopF_eq] at h1
           unfold aop at h1
           rw [ho] at h1
           simp only at h1
           split at h1
           · rename_i a' x' ha' hx'
             obtain ⟨s', hst, he⟩ := map_some h1
             injection he with he1 he2
             subst he2
             exact ⟨a', x', ha', hx', hst⟩
           · cases h1
       rw [aevalF_eq] at hi
       obtain ⟨a', x', ha', hx', hst⟩ := h1
       rw [ha'] at hi
       unfold newV at hi
       split at hi
       · rename_i id' off heq
         cases heq
         unfold astore at hst
         split at hst
         · rename_i i id2 off2 hi2 heq2
           cases heq2
           split at hst
           · split at hst
             · cases hst
               have := Nat.le_of_ble_eq_true hi
               exact look_upd_ne (by omega) _
             · cases hst
           · cases hst
         · cases hst
       · cases hi
     · rename_i cl ho
       split at hi
       · rename_i f hcl
         unfold hDo at h
         rw [ho] at h
         simp only [hcl] at h
         unfold hCall at h
         split at h
         · split at h
           · cases h; rfl
           · cases h
         · have := hA (by rw [ho]; simp [isVal, hcl])
           simp [isA] at this
         · have := hA (by rw [ho]; simp [isVal, hcl])
           simp [isA] at this
         · have := hA (by rw [ho]; simp [isVal, hcl])
           simp [isA] at this
         · cases h
       · rename_i hcl
         rw [ho] at hq
         simp [quiet, hcl] at hq
       · rw [ho] at hq; rw [ho, hq] at hi; cases hi
     · rename_i e ho; rw [ho] at ha; cases ha
     · rw [hq] at hi; cases hi
   · cases h; rfl
theorem Far.refl (q0 : Nat) (s : AS) : Far q0 s s := fun _ _ => rfl
theorem Far.trans {q0 : Nat} {a b c : AS} (h : Far q0 a b) (k : Far q0 b c) : Far q0 a c := fun id hid => (k id hid).trans (h id hid)
theorem hTr_ok {q0 : Nat} {l : List Oper} {q : Nat} {hs hs' : List Hn} {fr fr' : List AV} {s s' : AS} {cd : List Cd} {t : List (List AV × AS × AV)} (h : hTr P G ops l q hs fr s = some (hs', cd, t, fr', s')) (hc : Cds P G cd) (hi : indepL G ops q0 l t = true) :
   TrOk P G (XS P G) H0 ops q l fr s t fr' s' ∧ (∀ x ∈ t, Far q0 s x.2.1) ∧ Far q0 s s' := by
 induction l generalizing q hs fr s cd t with
 | nil => simp only [hTr] at h; cases h; exact ⟨.nil, (fun x hx => by cases hx), Far.refl _ _⟩
 | cons o l ih =>
   simp only [hTr] at h
   cases ha : isAlloc o.op with
   | true =>
     rw [ha] at h
     simp only at h
     unfold hTrK at h
     split at h
     · rename_i hs2 cd2 t2 fr2 s2 h2
       cases h
       have hi2 : indepL G ops q0 l t2 = true := by
         simp only [indepL] at hi
         split at hi
         · exact hi
         · split at hi
           · exact hi
           · cases hi
       obtain ⟨k1, k2, k3⟩ := ih h2 (hc.app).2 hi2
       refine ⟨.alloc ha k1, fun x hx => ?_, k3⟩
       rcases List.mem_cons.1 hx with rfl | hx
       · exact Far.refl _ _
       · exact k2 x hx
     · cases h
   | false =>
     rw [ha] at h
     simp only at h
     split at h
     · rename_i v s1 hs1 cd1 h1
       unfold hTrK at h
       split at h
       · rename_i hs2 cd2 t2 fr2 s2 h2
         cases h
         obtain ⟨c1, c2⟩ := hc.app
         have hi1 : awanted ops fr o = true → indep G q0 fr o = true := by
           intro hw
           simp only [indepL, hw] at hi
           split at hi
           · assumption
           · cases hi
         have hi2 : indepL G ops q0 l t2 = true := by
           simp only [indepL] at hi
           split at hi
           · exact hi
           · split at hi
             · exact hi
             · cases hi
         have hf := hOp_far (hOpC_ok h1).1 (hOpC_ok h1).2 hi1 c1 ha
         obtain ⟨k1, k2, k3⟩ := ih h2 c2 hi2
         refine ⟨.cons ha (hOp_ok (hOpC_ok h1).1 c1) k1, fun x hx => ?_, hf.trans k3⟩
         rcases List.mem_cons.1 hx with rfl | hx
         · exact Far.refl _ _
         · exact hf.trans (k2 x hx)
       · cases h
     · cases h
theorem indepL_at {q0 : Nat} {os : List Oper} {ts : List (List AV × AS × AV)} (h : indepL G ops q0 os ts = true) {i : Nat} {o : Oper} {x : List AV × AS × AV} (ho : os[i]? = some o) (hx : ts[i]? = some x) (hw : awanted ops x.1 o = true) : indep G q0 x.1 o = true := by
 induction os generalizing ts i with
 | nil => simp at ho
 | cons y os ih =>
   cases ts with
   | nil => simp at hx
   | cons t ts =>
     simp only [indepL] at h
     cases i with
     | zero =>
       simp at ho hx; subst ho hx
       rw [hw] at h
       simp only at h
       split at h
       · assumption
       · cases h
     | succ i =>
       have h2 : indepL G ops q0 os ts = true := by
         split at h
         · exact h
         · split at h
           · exact h
           · cases h
       exact ih h2 (by simpa using ho) (by simpa using hx)
theorem far_read {q0 : Nat} {fr : List AV} {s0 s s2 : AS} {o : Oper} {v : AV} (hq : quiet o.op = true) (hr : reads o.op = true) (hi : indep G q0 fr o = true) (h1 : Far q0 s0 s) (h2 : Far q0 s0 s2) (h : aop P G fr s o = some (.val v s)) : aop P G fr s2 o = some (.val v s2) := by
 unfold indep at hi
 split at hi
 · rename_i t a ho
   rw [aevalF_eq] at hi
   unfold aop at h ⊢
   rw [ho] at h ⊢
   simp only at h ⊢
   obtain ⟨v', h3, h4⟩ := map_some h
   injection h4 with h4
   subst h4
   obtain ⟨b, h5, h6⟩ := bind_some h3
   rw [h5] at hi ⊢
   unfold farV at hi
   split at hi
   · rename_i heq; cases heq
     simp only [Option.bind_some]
     rw [show aload P s2 t (.el _) = aload P s t (.el _) from rfl, h6]; rfl
   · rename_i id off heq; cases heq
     have hid : id < q0 := Nat.le_of_ble_eq_true hi
     have : aload P s2 t (.ptr id off) = aload P s t (.ptr id off) := by
       simp only [aload]
       rw [h2 id hid, h1 id hid]
     simp only [Option.bind_some]
     rw [this, h6]; rfl
   · cases hi
 · cases hi
 · rename_i t a x ho; rw [ho] at hq; cases hq
 · rename_i cl ho
   split at hi
   · rename_i f hcl; rw [ho] at hq; simp [quiet, hcl] at hq
   · rename_i hcl
     unfold aop at h ⊢
     rw [ho] at h ⊢
     simp only [acall, hcl] at h ⊢
     split at hi
     · rename_i x hx
       rw [hx] at h ⊢
       cases ht : cl.argTypes.toList with
       | nil => rw [ht] at h; cases h
       | cons t1 ts =>
         cases ts with
         | cons _ _ => rw [ht] at h; cases h
         | nil =>
           rw [ht] at h
           simp only at h ⊢
           obtain ⟨v', h3, h4⟩ := map_some h
           injection h4 with h4
           subst h4
           obtain ⟨b, h5, h6⟩ := bind_some h3
           rw [aevalF_eq, h5] at hi
           rw [h5]
           simp only [Option.bind_some]
           have : alen P s2 t1 b = alen P s t1 b := by
             unfold slV at hi
             split at hi
             · rename_i heq; cases heq; unfold alen; split <;> first | rfl | (simp_all; done)
             · rename_i heq; cases heq; unfold alen; split <;> first | rfl | (simp_all; done)
             · cases hi
           rw [this, h6]; rfl
     · cases hi
   · rename_i hn1 hn2
     rw [ho] at hr
     unfold reads at hr
     simp only at hr
     first
       | (cases hr; done)
       | (split at hr
          · rename_i hcl; exact absurd hcl hn2
          · cases hr)
 · rename_i e ho; rw [ho] at hq; cases hq
 · rename_i hn1 hn2 hn3 hn4 hn5
   exfalso
   unfold reads at hr
   split at hr
   · rename_i ho; exact hn1 _ _ ho
   · rename_i ho; exact hn2 _ _ _ _ ho
   · rename_i ho; exact hn4 _ ho
   · cases hr
theorem draw_far {id : Nat} {fr fr' : List AV} {s s' : AS} {r : List ABlk} {t : List (List AV × AS × AV)} {hs hs' : List Hn} {cd : List Cd} (hord : ordOk ops = true) (hr : rsv P ops.toList = some r) (h : hTr P G ops ops.toList s.nx hs fr (s.hold r) = some (hs', cd, t, fr', s')) (hc : Cds P G cd) (hi : indepL G ops s.nx ops.toList t = true) (hst1 : stable1 P ops t s' s.nx r = true) : J P G (XS P G) H0 (.code (.region id ops true) fr s .normal fr' s') := by
 obtain ⟨htr, hfar, hfar'⟩ := hTr_ok h hc hi
 have hlen : t.length = ops.size := by rw [htr.len, Array.length_toList]
 have hfk : ∀ k, Far s.nx (s.hold r) (stAt t s' k) := by
   intro k
   unfold stAt
   split
   · rename_i x hx; exact hfar x (List.mem_of_getElem? hx)
   · exact hfar'
 obtain ⟨h0, hat⟩ := htr.at
 have hdst : ∀ i o, ops[i]? = some o → dstOf ops i = o.dst := fun i o ho => by unfold dstOf; rw [ho]; rfl
 obtain ⟨hfin, hfrs⟩ := htr.frames (dstOf ops) (vlAt t) fr 0 rfl (fun i o ho => by rw [Nat.zero_add]; exact hdst i o (by rw [← Array.getElem?_toList]; exact ho)) (fun i => .inl (by rw [Nat.zero_add]))
 rw [Nat.zero_add, Array.length_toList] at hfin
 have hall : ∀ (i : Nat) (o : Oper), ops[i]? = some o → isAlloc o.op = false → J P G (XS P G) H0 (.op ops o (frX fr (dstOf ops) (vlAt t) (fun _ => true) i) (stAt t s' i) (.ret (vlAt t i)) (stAt t s' (i + 1))) := by
   intro i o ho hna
   obtain ⟨fi, h1, h2⟩ := hat i o (toList_get ho)
   have := hfrs i _ h1
   simp only [Nat.zero_add] at this
   rcases h2 with ⟨_, h2⟩ | ⟨h2, _⟩
   · rw [← this]
     exact h2
   · rw [hna] at h2; cases h2
 have hallA : ∀ (i : Nat) (o : Oper), ops[i]? = some o → isAlloc o.op = true → stAt t s' (i + 1) = stAt t s' i ∧ vlAt t i = allocV ops (frX fr (dstOf ops) (vlAt t) (fun _ => true) i) o (s.nx + rk ops i) := by
   intro i o ho hya
   obtain ⟨fi, h1, h2⟩ := hat i o (toList_get ho)
   have := hfrs i _ h1
   simp only [Nat.zero_add] at this
   rcases h2 with ⟨h2, _⟩ | ⟨_, h2⟩
   · rw [hya] at h2; cases h2
   · rw [← this]
     exact h2
 have hna : ∀ o : Oper, quiet o.op = true → isAlloc o.op = false := by
   intro o hq
   cases hya : isAlloc o.op with
   | false => rfl
   | true => obtain ⟨e, he⟩ := isAlloc_ok hya; rw [alloc_not_quiet he] at hq; cases hq
 have hnl : ∀ o : Oper, calm o.op = false → isAlloc o.op = false := by
   intro o hq
   cases hya : isAlloc o.op with
   | false => rfl
   | true => unfold calm at hq; rw [hya] at hq; cases hq
 have hsn : stAt t s' ops.size = s' := by
   unfold stAt
   rw [List.getElem?_eq_none (by omega)]
 have hsk : ∀ k, k ≤ ops.size → (t.map (fun x => x.2.1) ++ [s'])[k]? = some (stAt t s' k) := by
   intro k hk
   unfold stAt
   by_cases hkt : k < t.length
   · rw [List.getElem?_append_left (by simpa using hkt), List.getElem?_map, List.getElem?_eq_getElem hkt]; rfl
   · have : k = t.length := by omega
     subst this
     rw [List.getElem?_append_right (by simp)]
     simp
 have hloud : ∀ l, l ∈ loudsOf ops.toList 0 → loud ops l := by
   intro l hl
   obtain ⟨j, o', e, h5, h6⟩ := loudsOf_loud hl
   rw [Nat.zero_add] at e
   subst e
   exact ⟨o', by rw [← Array.getElem?_toList]; exact h5, h6⟩
 have key := J.draw (P := P) (G := G) (X := XS P G) (H := H0) (id := id) (f0 := fr) (s0 := s) r (vlAt t) (stAt t s') h0 hord (fun i o ho hl => hall i o ho (hnl o hl)) (fun i o ho hq => by
   obtain ⟨h1, h2⟩ := quiet_inv hq (hall i o ho (hna o hq))
   refine ⟨h1, ?_⟩
   rcases h2 with h2 | ⟨hw, h2⟩
   · exact .inl h2
   · refine .inr ⟨hw, fun k hk hwin => ?_⟩
     cases hrd : reads o.op with
     | false => exact quiet_free hq hrd h2 _
     | true =>
       obtain ⟨fi, hti, _⟩ := hat i o (toList_get ho)
       have hfi := hfrs i _ hti
       simp only [Nat.zero_add] at hfi
       have hin := indepL_at hi (toList_get ho) hti (by rw [hfi]; exact hw)
       rw [hfi] at hin
       exact far_read hq hrd hin (hfk i) (hfk k) h2) (fun i o e ho he => by
   have hya : isAlloc o.op = true := by rw [he]; rfl
   obtain ⟨h1, h2⟩ := hallA i o ho hya
   refine ⟨h1, ?_⟩
   have hrk : rk ops i < r.length := by
     rw [rsv_len hr]
     exact rkL_lt (toList_get ho) hya (by rw [Array.length_toList]; exact (Array.getElem?_eq_some_iff.1 ho).1)
   cases hw : awanted ops (frX fr (dstOf ops) (vlAt t) (fun _ => true) i) o with
   | false => unfold allocV at h2; rw [hw] at h2; exact .inl ⟨rfl, h2⟩
   | true =>
     unfold allocV at h2; rw [hw] at h2
     obtain ⟨fi, hti, _⟩ := hat i o (toList_get ho)
     have hfi := hfrs i _ hti
     simp only [Nat.zero_add] at hfi
     have hal : allocL P ops (masks ops.toList []) (loudsOf ops.toList 0) (t.map (·.2.1) ++ [s']) ops.toList t 0 s.nx = true := by
       unfold stable1 at hst1
       split at hst1
       · simp at hrk
       · exact hst1
     obtain ⟨z, hz, hbx⟩ := allocL_ok hal (toList_get ho) hti he (by rw [hfi]; exact hw)
     rw [Nat.zero_add] at hbx
     exact .inr ⟨rfl, z, hz, hrk, h2, fun k hk hwin => boxAll_ok hbx (hsk k hk) (by rw [Nat.zero_add]; exact winB_ok hloud hwin)⟩)
 rw [← hfin, hsn] at key
 exact key
end
end AI
namespace AI
open Go Go.RowKit
def hTrL (P : Program) (G : Glob) (ops : Array Oper) (c : Nat) : List Oper → Nat → List Hn → List AV → AS → HT
 | [], _, hs, fr, s => some (hs, [], [], fr, s)
 | o :: l, i, hs, fr, s => (match (match Nat.beq i c with
     | true => hOp P G ops fr s o hs
     | false => hOpC P G ops fr s o hs) with
   | some (v, s1, hs1, cd) => hTrK cd (fr, s, v) (hTrL P G ops c l (i + 1) hs1 (aput fr o.dst v) s1)
   | none => none)
def lastL (ms : List Nat) (c : Nat) : List Oper → Nat → Bool
 | [], _ => true
 | o :: l, i => (match Nat.beq i c with
   | true => !calm o.op
   | false => (match isVal o.op with
     | true => Nat.blt i c
     | false => quiet o.op && (!reads o.op || (Nat.blt i c && dep ms c i)))) && lastL ms c l (i + 1)
section
variable {P : Program} {G : Glob} {ops : Array Oper}
theorem lastL_at {ms : List Nat} {c : Nat} : ∀ {l : List Oper} {i j : Nat} {o : Oper}, lastL ms c l i = true → l[j]? = some o → (i + j = c → calm o.op = false) ∧ (i + j ≠ c → (isVal o.op = true ∧ i + j < c) ∨ (quiet o.op = true ∧ (reads o.op = true → i + j < c ∧ dep ms c (i + j) = true))) := by
 intro l
 induction l with
 | nil => intro i j o h ho; simp at ho
 | cons x l ih =>
   intro i j o h ho
   simp only [lastL, Bool.and_eq_true] at h
   cases j with
   | zero =>
     simp at ho; subst ho
     have h1 := h.1
     split at h1
     · rename_i hb
       have := Nat.eq_of_beq_eq_true hb
       exact ⟨fun _ => by simpa using h1, fun hn => absurd this hn⟩
     · rename_i hb
       have := Nat.ne_of_beq_eq_false hb
       refine ⟨fun hn => absurd hn this, fun _ => ?_⟩
       split at h1
       · rename_i hv
         exact .inl ⟨hv, Nat.le_of_ble_eq_true h1⟩
       · simp only [Bool.and_eq_true, Bool.or_eq_true, Bool.not_eq_true'] at h1
         refine .inr ⟨h1.1, fun hr => ?_⟩
         rcases h1.2 with h2 | h2
         · rw [hr] at h2; cases h2
         · exact ⟨Nat.le_of_ble_eq_true h2.1, h2.2⟩
   | succ j =>
     have := ih (i := i + 1) (j := j) h.2 (by simpa using ho)
     rw [show i + (j + 1) = i + 1 + j by omega]
     exact this
theorem lastL_alloc {ms : List Nat} {c : Nat} {l : List Oper} {i j : Nat} {o : Oper} (hl : lastL ms c l i = true) (hj : l[j]? = some o) : isAlloc o.op = false := by
 have ho := lastL_at hl hj
 cases ha : isAlloc o.op with
 | false => rfl
 | true =>
   obtain ⟨e, he⟩ := isAlloc_ok ha
   by_cases hic : i + j = c
   · have := ho.1 hic; unfold calm at this; rw [ha] at this; simp at this
   · rcases ho.2 hic with ⟨h1, _⟩ | ⟨h1, _⟩
     · rw [he] at h1; cases h1
     · rw [alloc_not_quiet he] at h1; cases h1
theorem hOp_val {fr : List AV} {s s1 : AS} {o : Oper} {hs hs' : List Hn} {v : AV} {cd : List Cd} (h : hOp P G ops fr s o hs = some (v, s1, hs', cd)) (hv : isVal o.op = true) (hA : isA hs = false) : s1 = s := by
 unfold hOp at h
 split at h
 · unfold isVal at hv
   split at hv
   · rename_i cl ho
     split at hv
     · rename_i f hcl
       unfold hDo at h
       rw [ho] at h
       simp only [hcl] at h
       unfold hCall at h
       split at h
       · split at h
         · cases h; rfl
         · cases h
       · simp [isA] at hA
       · simp [isA] at hA
       · simp [isA] at hA
       · cases h
     · cases hv
   · cases hv
 · cases h; rfl
theorem hTrL_ok {c q : Nat} {ms : List Nat} : ∀ {l : List Oper} {i : Nat} {hs hs' : List Hn} {fr fr' : List AV} {s s' : AS} {cd : List Cd} {t : List (List AV × AS × AV)}, hTrL P G ops c l i hs fr s = some (hs', cd, t, fr', s') → Cds P G cd → lastL ms c l i = true → TrOk P G (XS P G) H0 ops q l fr s t fr' s' ∧ ∀ j, j ≤ l.length → i + j ≤ c → stAt t s' j = s := by
 intro l
 induction l with
 | nil =>
   intro i hs hs' fr fr' s s' cd t h hc hl; simp only [hTrL] at h; cases h
   exact ⟨.nil, fun j hj _ => by rfl⟩
 | cons o l ih =>
   intro i hs hs' fr fr' s s' cd t h hc hl
   simp only [hTrL] at h
   split at h
   · rename_i v s1 hs1 cd1 h1
     unfold hTrK at h
     split at h
     · rename_i hs2 cd2 t2 fr2 s2 h2
       cases h
       obtain ⟨c1, c2⟩ := hc.app
       have ho := lastL_at (j := 0) hl rfl
       have hna : isAlloc o.op = false := lastL_alloc (j := 0) hl rfl
       have hl2 : lastL ms c l (i + 1) = true := by
         simp only [lastL, Bool.and_eq_true] at hl; exact hl.2
       have h3 : hOp P G ops fr s o hs = some (v, s1, hs1, cd1) := by
         split at h1
         · exact h1
         · exact (hOpC_ok h1).1
       have hj := hOp_ok h3 c1
       obtain ⟨k1, k2⟩ := ih h2 c2 hl2
       refine ⟨.cons hna hj k1, fun j hjl hjc => ?_⟩
       cases j with
       | zero => rfl
       | succ j =>
         have e1 : stAt ((fr, s, v) :: t2) s' (j + 1) = stAt t2 s' j := by unfold stAt; simp
         rw [e1, k2 j (by simpa using hjl) (by omega)]
         have hic : i + 0 ≠ c := by omega
         rcases ho.2 hic with ⟨hv, _⟩ | ⟨hq, _⟩
         · split at h1
           · rename_i hb; have := Nat.eq_of_beq_eq_true hb; omega
           · exact hOp_val h3 hv ((hOpC_ok h1).2 hv)
         · exact (quiet_inv hq hj).1
     · cases h
   · cases h
theorem draw_last {id c : Nat} {fr fr' : List AV} {s s' : AS} {t : List (List AV × AS × AV)} {hs hs' : List Hn} {cd : List Cd} (hord : ordOk ops = true) (hcs : Nat.blt c ops.size = true) (hl : lastL (masks ops.toList []) c ops.toList 0 = true) (h : hTrL P G ops c ops.toList 0 hs fr s = some (hs', cd, t, fr', s')) (hc : Cds P G cd) : J P G (XS P G) H0 (.code (.region id ops true) fr s .normal fr' s') := by
 have hcl : c < ops.size := Nat.le_of_ble_eq_true hcs
 obtain ⟨htr, hsm⟩ := hTrL_ok (q := s.nx) h hc hl
 have hlen : t.length = ops.size := by rw [htr.len, Array.length_toList]
 obtain ⟨h0, hat⟩ := htr.at
 have hdst : ∀ i o, ops[i]? = some o → dstOf ops i = o.dst := fun i o ho => by unfold dstOf; rw [ho]; rfl
 obtain ⟨hfin, hfrs⟩ := htr.frames (dstOf ops) (vlAt t) fr 0 rfl (fun i o ho => by rw [Nat.zero_add]; exact hdst i o (by rw [← Array.getElem?_toList]; exact ho)) (fun i => .inl (by rw [Nat.zero_add]))
 rw [Nat.zero_add, Array.length_toList] at hfin
 have hinfo : ∀ (i : Nat) (o : Oper), ops[i]? = some o → (i = c → calm o.op = false) ∧ (i ≠ c → (isVal o.op = true ∧ i < c) ∨ (quiet o.op = true ∧ (reads o.op = true → i < c ∧ dep (masks ops.toList []) c i = true))) := by
   intro i o ho
   have := lastL_at (j := i) hl (toList_get ho)
   rwa [Nat.zero_add] at this
 have hnal : ∀ (i : Nat) (o : Oper), ops[i]? = some o → isAlloc o.op = false := fun i o ho => lastL_alloc (j := i) hl (toList_get ho)
 have hall : ∀ (i : Nat) (o : Oper), ops[i]? = some o → J P G (XS P G) H0 (.op ops o (frX fr (dstOf ops) (vlAt t) (fun _ => true) i) (stAt t s' i) (.ret (vlAt t i)) (stAt t s' (i + 1))) := by
   intro i o ho
   obtain ⟨fi, h1, h2⟩ := hat i o (toList_get ho)
   have := hfrs i _ h1
   simp only [Nat.zero_add] at this
   rcases h2 with ⟨_, h2⟩ | ⟨h2, _⟩
   · rw [← this]
     exact h2
   · rw [hnal i o ho] at h2; cases h2
 have hsn : stAt t s' ops.size = s' := by
   unfold stAt
   rw [List.getElem?_eq_none (by omega)]
 have hsame : ∀ k, k ≤ c → stAt t s' k = s := fun k hk => hsm k (by rw [Array.length_toList]; omega) (by omega)
 have hloud : loud ops c := by
   have ho : ops[c]? = some ops[c] := Array.getElem?_eq_getElem hcl
   exact ⟨_, ho, (hinfo c _ ho).1 rfl⟩
 have key := J.draw (P := P) (G := G) (X := XS P G) (H := H0) (id := id) (f0 := fr) (s0 := s) [] (vlAt t) (stAt t s') h0 hord (fun i o ho _ => hall i o ho) (fun i o ho hq => by
   obtain ⟨h1, h2⟩ := quiet_inv hq (hall i o ho)
   refine ⟨h1, ?_⟩
   rcases h2 with h2 | ⟨hw, h2⟩
   · exact .inl h2
   · refine .inr ⟨hw, fun k hk hwin => ?_⟩
     cases hrd : reads o.op with
     | false => exact quiet_free hq hrd h2 _
     | true =>
       have hic : i ≠ c := fun e => by
         subst e
         obtain ⟨o2, ho2, hcm⟩ := hloud
         rw [ho] at ho2; cases ho2
         rw [calm_quiet hq] at hcm; cases hcm
       obtain ⟨hlt, hd⟩ : i < c ∧ dep (masks ops.toList []) c i = true := by
         rcases (hinfo i o ho).2 hic with ⟨hv, _⟩ | ⟨_, h3⟩
         · exfalso
           unfold isVal at hv
           split at hv
           · rename_i cl hop
             split at hv
             · rename_i f hcal
               rw [hop] at hq
               simp [quiet, hcal] at hq
             · cases hv
           · cases hv
         · exact h3 hrd
       have hkc := hwin.2 c hloud hd
       rw [hsame k hkc]
       rw [hsame i (by omega)] at h2
       exact h2) (fun i o e ho he => by
   have := hnal i o ho
   rw [he] at this
   cases this)
 rw [← hfin, hsn] at key
 exact key
end
end AI
namespace AI
open Go Go.RowKit
def touch (G : Glob) (fr : List AV) (o : Oper) (hs : List Hn) : Option (List Nat) := match o.op with
 | .store _ a _ => (match aeval G fr a with
   | some (.ptr id _) => some [id]
   | _ => none)
 | .mapUpdate _ m _ _ => (match aevalF G fr m with
   | some (.mp id) => some [id]
   | _ => none)
 | .call cl => (match cl.callee with
   | .value _ => (match hs with
     | .w _ :: _ => some []
     | .u _ _ _ ups _ :: _ => some (ups.map (·.1))
     | .cn _ h _ _ _ :: _ => some (h.map (·.1))
     | _ => none)
   | .builtin .append => (match hs with
     | .g _ _ _ :: _ => some []
     | _ => none)
   | _ => (match quiet o.op with
     | true => some []
     | false => none))
 | op => (match quiet op with
   | true => some []
   | false => none)
def touchW (G : Glob) (ops : Array Oper) (fr : List AV) (o : Oper) (hs : List Hn) : Option (List Nat) := match awanted ops fr o with
 | true => touch G fr o hs
 | false => some []
abbrev HA := Option (List Hn × List Cd × List (List AV × AS × AV) × List (List Nat) × List AV × AS)
def hTrAK (cd : List Cd) (x : List AV × AS × AV) (T : List Nat) : HA → HA
 | some (hs, cd', t, Ts, fr, s) => some (hs, cd ++ cd', x :: t, T :: Ts, fr, s)
 | none => none
def hTrA (P : Program) (G : Glob) (ops : Array Oper) : List Oper → List Hn → List AV → AS → HA
 | [], hs, fr, s => some (hs, [], [], [], fr, s)
 | o :: l, hs, fr, s => (match isAlloc o.op with
   | true => none
   | false => (match touchW G ops fr o hs with
     | some T => (match hOp P G ops fr s o hs with
       | some (v, s1, hs1, cd) => hTrAK cd (fr, s, v) T (hTrA P G ops l hs1 (aput fr o.dst v) s1)
       | none => none)
     | none => none))
def rdOf (G : Glob) (fr : List AV) (o : Oper) : Option (Option Nat) := match o.op with
 | .load _ a => (match aevalF G fr a with
   | some (.ptr id _) => some (some id)
   | some (.el _) => some none
   | _ => none)
 | .lookup _ m _ _ => (match aevalF G fr m with
   | some (.mp id) => some (some id)
   | _ => none)
 | .call cl => (match cl.callee with
   | .builtin .len => (match cl.args.toList with
     | [x] => (match slV (aevalF G fr x) with
       | true => some none
       | false => none)
     | _ => none)
   | _ => none)
 | _ => none
def memN (a : Nat) : List Nat → Bool
 | [] => false
 | b :: l => (match Nat.beq a b with
   | true => true
   | false => memN a l)
def touchOk (ms : List Nat) (id i : Nat) : List (List Nat) → Nat → Bool
 | [], _ => true
 | T :: Ts, l => (match memN id T with
   | true => (match Nat.blt l i with
     | true => dep ms i l
     | false => (match Nat.blt i l with
       | true => dep ms l i
       | false => true))
   | false => true) && touchOk ms id i Ts (l + 1)
def rdsOk (G : Glob) (ops : Array Oper) (ms : List Nat) (Ts : List (List Nat)) : List Oper → List (List AV × AS × AV) → Nat → Bool
 | o :: os, t :: ts, i => (match awanted ops t.1 o with
   | false => true
   | true => (match reads o.op with
     | false => true
     | true => (match rdOf G t.1 o with
       | none => false
       | some none => true
       | some (some id) => touchOk ms id i Ts 0))) && rdsOk G ops ms Ts os ts (i + 1)
 | _, _, _ => true
theorem memN_iff {a : Nat} : ∀ {l : List Nat}, memN a l = true ↔ a ∈ l
 | [] => by simp [memN]
 | b :: l => by
   simp only [memN]
   cases hb : Nat.beq a b with
   | true => have := Nat.eq_of_beq_eq_true hb; simp [this]
   | false =>
     have := Nat.ne_of_beq_eq_false hb
     simp [memN_iff (l := l), this]
theorem upds_far {id : Nat} : ∀ (l : List (Nat × ABlk)) (s : AS), id ∉ l.map (·.1) → (s.upds l).get id = s.get id
 | [], _, _ => rfl
 | e :: l, s, h => by
   simp only [List.map_cons, List.mem_cons, not_or] at h
   rw [AS.upds, upds_far l _ h.2]
   exact look_upd_ne h.1 _
theorem look_far {id : Nat} : ∀ {l : List (Nat × ABlk)} (m : List (Nat × ABlk)), id ∉ l.map (·.1) → look id (l ++ m) = look id m
 | [], _, _ => rfl
 | e :: l, m, h => by
   simp only [List.map_cons, List.mem_cons, not_or] at h
   simp only [List.cons_append, look]
   have hb : Nat.beq e.1 id = false := by
     cases hq : Nat.beq e.1 id with
     | false => rfl
     | true => exact absurd (Nat.eq_of_beq_eq_true hq).symm h.1
   rw [hb]
   exact look_far m h.2
theorem grows_far {id : Nat} : ∀ (l : List (Nat × Nat)) (s : AS), (s.grows l).get id = s.get id
 | [], _ => rfl
 | e :: l, s => by rw [AS.grows, grows_far l]; rfl
section
variable {P : Program} {G : Glob} {ops : Array Oper}
theorem hOp_touch {fr : List AV} {s s1 : AS} {o : Oper} {hs hs' : List Hn} {v : AV} {cd : List Cd} {T : List Nat} (h : hOp P G ops fr s o hs = some (v, s1, hs', cd)) (hT : touchW G ops fr o hs = some T) (hc : Cds P G cd) (ha : isAlloc o.op = false) (id : Nat) (hid : id ∉ T) : s1.get id = s.get id := by
 have hj := hOp_ok h hc
 cases hq : quiet o.op with
 | true => rw [(quiet_inv hq hj).1]
 | false =>
   unfold hOp at h
   unfold touchW at hT
   split at h
   · rename_i hw
     rw [hw] at hT
     simp only at hT
     unfold touch at hT
     split at hT
     · rename_i t a x ho
       unfold hDo at h
       rw [ho] at h
       simp only at h
       have h1 : ∃ a' x', aeval G fr a = some a' ∧ aeval G fr x = some x' ∧ astore P s t a' x' = some s1 := by
         rcases hStore_ok h hc with ⟨a', x', h2, h3, h4, _⟩ | h2
         · exact ⟨a', x', h2, h3, h4⟩
         · have h1 := hPlain_ok h2
           rw [aopF_eq] at h1
           unfold aop at h1
           rw [ho] at h1
           simp only at h1
           split at h1
           · rename_i a' x' ha' hx'
             obtain ⟨s', hst, he⟩ := map_some h1
             injection he with he1 he2
             subst he2
             exact ⟨a', x', ha', hx', hst⟩
           · cases h1
       obtain ⟨a', x', ha', hx', hst⟩ := h1
       rw [ha'] at hT
       split at hT
       · rename_i id' off heq
         cases heq
         cases hT
         simp only [List.mem_singleton] at hid
         unfold astore at hst
         split at hst
         · rename_i i id2 off2 hi2 heq2
           cases heq2
           split at hst
           · split at hst
             · cases hst
               exact look_upd_ne hid _
             · cases hst
           · cases hst
         · cases hst
       · cases hT
     · rename_i t m k x ho
       unfold hDo at h
       rw [ho] at h
       simp only at h
       split at hT
       · rename_i id' heq
         rw [heq] at h
         cases hT
         simp only [List.mem_singleton] at hid
         simp only at h
         split at h
         · split at h
           · have set_far : ∀ kk x' s2, amapSet P s t (.mp id') kk x' = some s2 → s2.get id = s.get id := by
               intro kk x' s2 h2
               unfold amapSet at h2
               repeat' split at h2
               all_goals first
                 | (cases h2; done)
                 | (rename_i heq2; cases heq2; cases h2; exact look_upd_ne hid _)
                 | (simp_all only [AV.mp.injEq, Option.some.injEq]; subst_vars; exact look_upd_ne hid _)
             unfold hSet at h
             split at h
             · cases h; exact set_far _ _ _ hc.1
             · cases h
               exact look_upd_ne hid _
             · cases h
           · cases h
         · cases h
       · cases hT
     · rename_i cl ho
       split at hT
       · rename_i f hcl
         unfold hDo at h
         rw [ho] at h
         simp only [hcl] at h
         unfold hCall at h
         split at h
         · split at h
           · cases h; rfl
           · cases h
         · cases hT
         · split at h
           · cases h
             cases hT
             rw [grows_far]
             exact upds_far _ _ hid
           · cases h
         · split at h
           · cases h
             cases hT
             exact look_far _ hid
           · cases h
         · cases h
       · rename_i hcl
         unfold hDo at h
         rw [ho] at h
         simp only [hcl] at h
         split at hT
         · split at h
           · split at h
             · split at h
               · unfold hApp at h
                 simp only at h
                 split at h
                 · cases h; rfl
                 · split at h
                   · split at h
                     · cases h; rfl
                     · cases h
                   · cases h
                 · cases h
               · cases h
             · cases h
           · cases h
         · cases hT
       · rw [hq] at hT; cases hT
     · rw [hq] at hT; cases hT
   · cases h; rfl
theorem touch_loud {fr : List AV} {o : Oper} {hs : List Hn} {T : List Nat} (hT : touchW G ops fr o hs = some T) {id : Nat} (h : id ∈ T) (ha : isAlloc o.op = false) : calm o.op = false := by
 unfold calm
 rw [ha]
 simp only
 cases hq : quiet o.op with
 | false => rfl
 | true =>
   exfalso
   unfold touchW at hT
   split at hT
   · unfold touch at hT
     split at hT
     · rename_i ho; rw [ho] at hq; cases hq
     · rename_i ho; rw [ho] at hq; cases hq
     · rename_i cl ho
       split at hT
       · rename_i hcl; rw [ho] at hq; simp [quiet, hcl] at hq
       · split at hT
         · cases hT; cases h
         · cases hT
       · rw [hq] at hT; cases hT; cases h
     · rw [hq] at hT; cases hT; cases h
   · cases hT; cases h
theorem hTrA_ok {q : Nat} : ∀ {l : List Oper} {hs hs' : List Hn} {fr fr' : List AV} {s s' : AS} {cd : List Cd} {t : List (List AV × AS × AV)} {Ts : List (List Nat)}, hTrA P G ops l hs fr s = some (hs', cd, t, Ts, fr', s') → Cds P G cd →
   TrOk P G (XS P G) H0 ops q l fr s t fr' s' ∧ (∀ o ∈ l, isAlloc o.op = false) ∧ (∀ (i : Nat) id, i < l.length → (∀ T, Ts[i]? = some T → id ∉ T) → (stAt t s' (i + 1)).get id = (stAt t s' i).get id) ∧ ∀ (i : Nat) o T id, l[i]? = some o → Ts[i]? = some T → id ∈ T → calm o.op = false := by
 intro l
 induction l with
 | nil =>
   intro hs hs' fr fr' s s' cd t Ts h hc
   simp only [hTrA] at h
   cases h
   exact ⟨.nil, (fun o h => by cases h), (fun i id h => by simp at h), fun i o T id h => by simp at h⟩
 | cons o l ih =>
   intro hs hs' fr fr' s s' cd t Ts h hc
   simp only [hTrA] at h
   split at h
   · cases h
   · rename_i ha
     split at h
     · rename_i T hT
       split at h
       · rename_i v s1 hs1 cd1 h1
         unfold hTrAK at h
         split at h
         · rename_i hs2 cd2 t2 Ts2 fr2 s2 h2
           cases h
           obtain ⟨c1, c2⟩ := hc.app
           obtain ⟨k1, k2, k3, k4⟩ := ih h2 c2
           refine ⟨.cons ha (hOp_ok h1 c1) k1, fun o' ho' => ?_, fun i id hi hno => ?_, fun i o' T' id ho' hT' hid => ?_⟩
           · rcases List.mem_cons.1 ho' with rfl | ho'
             · exact ha
             · exact k2 o' ho'
           · cases i with
             | zero =>
               have e1 : stAt ((fr, s, v) :: t2) s' 0 = s := rfl
               have e2 : stAt ((fr, s, v) :: t2) s' (0 + 1) = s1 := by
                 rw [show stAt ((fr, s, v) :: t2) s' (0 + 1) = stAt t2 s' 0 by unfold stAt; simp]
                 exact k1.at.1
               rw [e1, e2]
               exact hOp_touch h1 hT c1 ha id (hno T rfl)
             | succ i =>
               have e : ∀ j, stAt ((fr, s, v) :: t2) s' (j + 1) = stAt t2 s' j := fun j => by unfold stAt; simp
               rw [e, e]
               exact k3 i id (by simpa using hi) (fun T' h' => hno T' (by simpa using h'))
           · cases i with
             | zero => simp at ho' hT'; subst ho' hT'; exact touch_loud hT hid ha
             | succ i => exact k4 i o' T' id (by simpa using ho') (by simpa using hT') hid
         · cases h
       · cases h
     · cases h
theorem touchOk_at {ms : List Nat} {id i : Nat} : ∀ {Ts : List (List Nat)} {l0 : Nat}, touchOk ms id i Ts l0 = true → ∀ {l : Nat} {T : List Nat}, Ts[l]? = some T → id ∈ T → (l0 + l < i → dep ms i (l0 + l) = true) ∧ (i < l0 + l → dep ms (l0 + l) i = true) := by
 intro Ts
 induction Ts with
 | nil => intro l0 _ l T h; simp at h
 | cons T0 Ts ih =>
   intro l0 h l T hT hid
   simp only [touchOk, Bool.and_eq_true] at h
   cases l with
   | zero =>
     simp at hT; subst hT
     have h1 := h.1
     rw [memN_iff.2 hid] at h1
     simp only at h1
     constructor
     · intro hlt
       have e : Nat.blt l0 i = true := Nat.ble_eq_true_of_le hlt
       rw [e] at h1; exact h1
     · intro hlt
       have e : Nat.blt l0 i = false := by
         cases hq : Nat.blt l0 i with
         | false => rfl
         | true => have := Nat.le_of_ble_eq_true hq; omega
       have e2 : Nat.blt i l0 = true := Nat.ble_eq_true_of_le hlt
       rw [e, e2] at h1; exact h1
   | succ l =>
     have := ih h.2 (l := l) (by simpa using hT) hid
     rw [show l0 + (l + 1) = l0 + 1 + l by omega]
     exact this
theorem rdsOk_at {ms : List Nat} {Ts : List (List Nat)} : ∀ {os : List Oper} {ts : List (List AV × AS × AV)} {i : Nat}, rdsOk G ops ms Ts os ts i = true → ∀ {j : Nat} {o : Oper} {x : List AV × AS × AV}, os[j]? = some o → ts[j]? = some x → awanted ops x.1 o = true → reads o.op = true → ∃ r, rdOf G x.1 o = some r ∧ ∀ id, r = some id → touchOk ms id (i + j) Ts 0 = true := by
 intro os
 induction os with
 | nil => intro ts i _ j o x h; simp at h
 | cons y os ih =>
   intro ts i h j o x ho hx hw hr
   cases ts with
   | nil => simp at hx
   | cons t ts =>
     simp only [rdsOk, Bool.and_eq_true] at h
     cases j with
     | zero =>
       simp at ho hx; subst ho hx
       have h1 := h.1
       rw [hw, hr] at h1
       simp only at h1
       split at h1
       · cases h1
       · rename_i hq; exact ⟨none, hq, fun id h => by cases h⟩
       · rename_i id hq; exact ⟨some id, hq, fun id' h => by cases h; exact h1⟩
     | succ j =>
       have := ih h.2 (j := j) (by simpa using ho) (by simpa using hx) hw hr
       rw [show i + (j + 1) = i + 1 + j by omega]
       exact this
theorem rd_same {fr : List AV} {s s2 : AS} {o : Oper} {v : AV} {r : Option Nat} (hr : rdOf G fr o = some r) (hs : ∀ id, r = some id → s2.get id = s.get id) (h : aop P G fr s o = some (.val v s)) : aop P G fr s2 o = some (.val v s2) := by
 unfold rdOf at hr
 split at hr
 · rename_i t a ho
   rw [aevalF_eq] at hr
   unfold aop at h ⊢
   rw [ho] at h ⊢
   simp only at h ⊢
   obtain ⟨v', h3, h4⟩ := map_some h
   injection h4 with h4
   subst h4
   obtain ⟨b, h5, h6⟩ := bind_some h3
   rw [h5] at hr ⊢
   split at hr
   · rename_i id off heq; cases heq
     cases hr
     have : aload P s2 t (.ptr id off) = aload P s t (.ptr id off) := by
       simp only [aload]
       rw [hs id rfl]
     simp only [Option.bind_some]
     rw [this, h6]; rfl
   · rename_i heq; cases heq
     simp only [Option.bind_some]
     rw [show aload P s2 t (.el _) = aload P s t (.el _) from rfl, h6]; rfl
   · cases hr
 · rename_i t m k ok ho
   rw [aevalF_eq] at hr
   unfold aop at h ⊢
   rw [ho] at h ⊢
   simp only at h ⊢
   split at hr
   · rename_i id heq
     cases hr
     rw [heq] at h ⊢
     split at h
     · rename_i a b ha hb
       cases ha
       obtain ⟨v', h3, h4⟩ := map_some h
       injection h4 with h4
       subst h4
       have : alookup P s2 t (.mp id) b ok = alookup P s t (.mp id) b ok := by
         simp only [alookup]
         rw [hs id rfl]
       rw [this, h3]; rfl
     · cases h
   · cases hr
 · rename_i cl ho
   split at hr
   · rename_i hcl
     unfold aop at h ⊢
     rw [ho] at h ⊢
     simp only [acall, hcl] at h ⊢
     split at hr
     · rename_i x hx
       rw [hx] at h ⊢
       cases ht : cl.argTypes.toList with
       | nil => rw [ht] at h; cases h
       | cons t1 ts =>
         cases ts with
         | cons _ _ => rw [ht] at h; cases h
         | nil =>
           rw [ht] at h
           simp only at h ⊢
           obtain ⟨v', h3, h4⟩ := map_some h
           injection h4 with h4
           subst h4
           obtain ⟨b, h5, h6⟩ := bind_some h3
           rw [aevalF_eq, h5] at hr
           rw [h5]
           simp only [Option.bind_some]
           split at hr
           · rename_i hsl
             have : alen P s2 t1 b = alen P s t1 b := by
               unfold slV at hsl
               split at hsl
               · rename_i heq; cases heq; unfold alen; split <;> first | rfl | (simp_all; done)
               · rename_i heq; cases heq; unfold alen; split <;> first | rfl | (simp_all; done)
               · cases hsl
             rw [this, h6]; rfl
           · cases hr
     · cases hr
   · cases hr
 · cases hr
theorem draw_all {id : Nat} {fr fr' : List AV} {s s' : AS} {t : List (List AV × AS × AV)} {Ts : List (List Nat)} {hs hs' : List Hn} {cd : List Cd} (hord : ordOk ops = true) (h : hTrA P G ops ops.toList hs fr s = some (hs', cd, t, Ts, fr', s')) (hr : rdsOk G ops (masks ops.toList []) Ts ops.toList t 0 = true) (hc : Cds P G cd) : J P G (XS P G) H0 (.code (.region id ops true) fr s .normal fr' s') := by
 obtain ⟨htr, hna, hst, hlo⟩ := hTrA_ok (q := s.nx) h hc
 have hlen : t.length = ops.size := by rw [htr.len, Array.length_toList]
 obtain ⟨h0, hat⟩ := htr.at
 have hdst : ∀ i o, ops[i]? = some o → dstOf ops i = o.dst := fun i o ho => by unfold dstOf; rw [ho]; rfl
 obtain ⟨hfin, hfrs⟩ := htr.frames (dstOf ops) (vlAt t) fr 0 rfl (fun i o ho => by rw [Nat.zero_add]; exact hdst i o (by rw [← Array.getElem?_toList]; exact ho)) (fun i => .inl (by rw [Nat.zero_add]))
 rw [Nat.zero_add, Array.length_toList] at hfin
 have hnal : ∀ (i : Nat) (o : Oper), ops[i]? = some o → isAlloc o.op = false := fun i o ho => hna o (List.mem_of_getElem? (toList_get ho))
 have hall : ∀ (i : Nat) (o : Oper), ops[i]? = some o → J P G (XS P G) H0 (.op ops o (frX fr (dstOf ops) (vlAt t) (fun _ => true) i) (stAt t s' i) (.ret (vlAt t i)) (stAt t s' (i + 1))) := by
   intro i o ho
   obtain ⟨fi, h1, h2⟩ := hat i o (toList_get ho)
   have := hfrs i _ h1
   simp only [Nat.zero_add] at this
   rcases h2 with ⟨_, h2⟩ | ⟨h2, _⟩
   · rw [← this]
     exact h2
   · rw [hnal i o ho] at h2; cases h2
 have hsn : stAt t s' ops.size = s' := by
   unfold stAt
   rw [List.getElem?_eq_none (by omega)]
 have hTl : ∀ (l : Nat) T id, Ts[l]? = some T → id ∈ T → l < ops.size → loud ops l := by
   intro l T id hT hid hl
   exact ⟨ops[l], Array.getElem?_eq_getElem hl, hlo l ops[l] T id (toList_get (Array.getElem?_eq_getElem hl)) hT hid⟩
 have hsame : ∀ (bx : Nat) (d i : Nat), i + d ≤ ops.size → (∀ l, i ≤ l → l < i + d → ∀ T, Ts[l]? = some T → bx ∉ T) → (stAt t s' (i + d)).get bx = (stAt t s' i).get bx := by
   intro bx d
   induction d with
   | zero => intro i _ _; rfl
   | succ d ih =>
     intro i hle hno
     rw [show i + (d + 1) = (i + d) + 1 by omega, hst (i + d) bx (by rw [Array.length_toList]; omega) (hno (i + d) (by omega) (by omega))]
     exact ih i (by omega) (fun l h1 h2 => hno l h1 (by omega))
 have key := J.draw (P := P) (G := G) (X := XS P G) (H := H0) (id := id) (f0 := fr) (s0 := s) [] (vlAt t) (stAt t s') h0 hord (fun i o ho _ => hall i o ho) (fun i o ho hq => by
   obtain ⟨h1, h2⟩ := quiet_inv hq (hall i o ho)
   refine ⟨h1, ?_⟩
   rcases h2 with h2 | ⟨hw, h2⟩
   · exact .inl h2
   · refine .inr ⟨hw, fun k hk hwin => ?_⟩
     cases hrd : reads o.op with
     | false => exact quiet_free hq hrd h2 _
     | true =>
       have hil : i < ops.size := (Array.getElem?_eq_some_iff.1 ho).1
       obtain ⟨fi, hti, _⟩ := hat i o (toList_get ho)
       have hfi := hfrs i _ hti
       simp only [Nat.zero_add] at hfi
       obtain ⟨r, hr1, hr2⟩ := rdsOk_at hr (toList_get ho) hti (by rw [hfi]; exact hw) hrd
       rw [hfi] at hr1
       refine rd_same hr1 (fun bx hbx => ?_) h2
       have hto := hr2 bx hbx
       rw [Nat.zero_add] at hto
       rcases Nat.lt_or_ge k i with hki | hki
       · have := hsame bx (i - k) k (by omega) (fun l h3 h4 T hT hm => by
           have hd := (touchOk_at hto hT hm).1 (by omega)
           rw [Nat.zero_add] at hd
           have := hwin.1 l (hTl l T bx hT hm (by omega)) hd
           omega)
         rw [show k + (i - k) = i by omega] at this
         exact this.symm
       · have := hsame bx (k - i) i (by omega) (fun l h3 h4 T hT hm => by
           have hll := hTl l T bx hT hm (by omega)
           rcases Nat.lt_or_ge i l with h5 | h5
           · have hd := (touchOk_at hto hT hm).2 (by omega)
             rw [Nat.zero_add] at hd
             have := hwin.2 l hll hd
             omega
           · have : l = i := by omega
             subst this
             obtain ⟨o2, ho2, hcm⟩ := hll
             rw [ho] at ho2; cases ho2
             rw [calm_quiet hq] at hcm; cases hcm)
         rw [show i + (k - i) = k by omega] at this
         exact this) (fun i o e ho he => by
   have := hnal i o ho
   rw [he] at this
   cases this)
 rw [← hfin, hsn] at key
 exact key
end
end AI
