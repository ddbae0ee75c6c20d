/- Abstract runs are right: what they come to, the calls come to. -/
import Derived.Test.YtnijkdknnmgoeaaGreatAic
namespace AI
open Go Go.RowKit

theorem op_sees {G : Glob} {c : Cx} {w : World} {s : AS} {fr : List AV} {a : Act} (hs : St G c w s) (hf : RpL c w fr a.tmps.toList) (x : Operand) : Sees G c w fr a.eval x := fun _ hv => aeval_ok hs hf hv
theorem wpOp1_ops {P : Program} {ops : Array Oper} {o : Oper} {i : Nat} {l : List Nat} {Q : Exit → Act → World → Prop} {a : Act} {w : World} (ho : ops[i]? = some o) (h : wpOp1 P ops o (wpOps P ops Q l) Q a w) : wpOps P ops Q (i :: l) a w := by
  unfold wpOps
  rw [ho]
  unfold wpOp1 at h
  simp only
  split
  · rename_i hw; rw [if_pos hw] at h; exact .inl h
  · rename_i hw; rw [if_neg hw] at h; exact h
theorem CPost.notNormal {G : Glob} {c : Cx} {w : World} {e : AX} {fr' : List AV} {s' : AS} {e' : Exit} {a' : Act} {w' : World} (h : CPost G c w e fr' s' e' a' w') (he : e ≠ .normal) : e' ≠ .normal := by
  obtain ⟨c', _, _, _, h4⟩ := h
  cases e with
  | normal => exact absurd rfl he
  | exit id => intro h5; rw [h4.1] at h5; cases h5
  | ret => intro h5; rw [h4.1] at h5; cases h5
  | pan v => obtain ⟨u, h5, _⟩ := h4; intro h6; rw [h5] at h6; cases h6
theorem then_not {K : Act → World → Prop} {Q : Exit → Act → World → Prop} {e : Exit} {a : Act} {w : World} (he : e ≠ .normal) (h : Q e a w) : Exit.then K Q e a w := by
  cases e <;> first | exact absurd rfl he | exact h
structure Given (P : Program) (G : Glob) (X : Exts) (H : Hook) : Prop where
  mixed : P.follows .mixedOrders = true
  ext : ∀ f args s r s', X f args s r s' → Sound P G (.call f args s r s')
  hook : ∀ f args g gargs k, H f args = some (g, gargs, k) → ∀ s r s' r', Sound P G (.call g gargs s r s') → k r = some r' → Sound P G (.call f args s r' s')
theorem sound {P : Program} {G : Glob} {X : Exts} {H : Hook} (hg : Given P G X H) {jd : Jd} (h : J P G X H jd) : Sound P G jd := by
  induction h with
  | weak hw _ ih => intro cx w a Q hs hf hd hQ; obtain ⟨h1, h2⟩ := hw cx w _ hs hf; exact ih cx w a Q h1 h2 hd hQ
  | weakL hw _ ih => obtain ⟨n, ih⟩ := ih; exact ⟨n, fun cx w a Q hs hf hd hQ => by obtain ⟨h1, h2⟩ := hw cx w _ hs hf; exact ih cx w a Q h1 h2 hd hQ⟩
  | @scope c fr fr2 fr' s s2 s' e _ he hsc ih =>
    intro cx w a Q hs hf hd hQ
    refine ih cx w a Q hs hf hd ?_
    rintro e' a' w' ⟨c', hx, hs', hd', h4⟩
    cases e with
    | normal => obtain ⟨rfl, h5⟩ := h4; obtain ⟨c2, x2, st2, f2⟩ := hsc cx w c' w' _ hx hs hs' h5; exact hQ _ _ _ ⟨c2, x2, st2, hd', rfl, f2⟩
    | exit id => obtain ⟨rfl, h5⟩ := h4; obtain ⟨c2, x2, st2, f2⟩ := hsc cx w c' w' _ hx hs hs' h5; exact hQ _ _ _ ⟨c2, x2, st2, hd', rfl, f2⟩
    | ret => obtain ⟨rfl, h5⟩ := h4; obtain ⟨c2, x2, st2, f2⟩ := hsc cx w c' w' _ hx hs hs' h5; exact hQ _ _ _ ⟨c2, x2, st2, hd', rfl, f2⟩
    | pan v => exact absurd rfl (he v)
  | skip => intro cx w a Q hs hf hd hQ; exact wp_skip (hQ _ _ _ ⟨cx, Ext.refl _ _, hs, hd, rfl, hf⟩)
  | exit => intro cx w a Q hs hf hd hQ; exact wp_exit (hQ _ _ _ ⟨cx, Ext.refl _ _, hs, hd, rfl, hf⟩)
  | ret => intro cx w a Q hs hf hd hQ; exact wp_ret (hQ _ _ _ ⟨cx, Ext.refl _ _, hs, hd, rfl, hf⟩)
  | seq _ _ ih1 ih2 =>
    intro cx w a Q hs hf hd hQ
    refine wp_seq (ih1 cx w a _ hs hf hd ?_)
    rintro e' a' w' ⟨c', hx, hs', hd', rfl, hf'⟩
    exact ih2 c' w' a' Q hs' hf' hd' (fun e2 a2 w2 h2 => hQ e2 a2 w2 (h2.ext hx))
  | seqX _ he ih1 =>
    intro cx w a Q hs hf hd hQ
    refine wp_seq (ih1 cx w a _ hs hf hd ?_)
    intro e' a' w' hp
    exact then_not (hp.notNormal he) (hQ _ _ _ hp)
  | @cond q x y t fr fr' s s' e hq _ ih =>
    intro cx w a Q hs hf hd hQ
    have hr := aeval_ok hs hf hq
    have hev : a.eval q = .bool t := by
      generalize a.eval q = v at hr
      cases hr; rfl
    exact wp_cond hev (ih cx w a Q hs hf hd hQ)
  | @block id c fr fr' s s' e _ ih =>
    intro cx w a Q hs hf hd hQ
    refine wp_block (ih cx w a _ hs hf hd ?_)
    rintro e' a' w' ⟨c', hx, hs', hd', h4⟩
    cases e with
    | normal => obtain ⟨rfl, h5⟩ := h4; exact hQ _ _ _ ⟨c', hx, hs', hd', rfl, h5⟩
    | exit id' =>
      obtain ⟨rfl, h5⟩ := h4
      show if id' = id then Q .normal a' w' else Q (.exit id') a' w'
      by_cases hid : id' = id
      · rw [if_pos hid]
        refine hQ _ _ _ ⟨c', hx, hs', hd', ?_⟩
        simp only [unblock, hid, if_true]
        exact ⟨trivial, h5⟩
      · rw [if_neg hid]
        refine hQ _ _ _ ⟨c', hx, hs', hd', ?_⟩
        simp only [unblock, hid, if_false]
        exact ⟨trivial, h5⟩
    | ret => obtain ⟨rfl, h5⟩ := h4; exact hQ _ _ _ ⟨c', hx, hs', hd', rfl, h5⟩
    | pan v => obtain ⟨u, rfl, h5⟩ := h4; exact hQ _ _ _ ⟨c', hx, hs', hd', u, rfl, h5⟩
  | loop _ ih =>
    intro cx w a Q hs hf hd hQ
    obtain ⟨n, hn⟩ := ih
    exact wp_loop_rounds n (hn cx w a Q hs hf hd hQ)
  | loopN _ _ ih1 ih2 =>
    obtain ⟨n, hn⟩ := ih2
    refine ⟨n + 1, ?_⟩
    intro cx w a Q hs hf hd hQ
    rw [rounds_succ]
    refine ih1 cx w a _ hs hf hd ?_
    rintro e' a' w' ⟨c', hx, hs', hd', rfl, hf'⟩
    exact hn c' w' a' Q hs' hf' hd' (fun e2 a2 w2 h2 => hQ e2 a2 w2 (h2.ext hx))
  | loopX _ he ih1 =>
    refine ⟨1, ?_⟩
    intro cx w a Q hs hf hd hQ
    rw [rounds_succ]
    refine ih1 cx w a _ hs hf hd ?_
    intro e' a' w' hp
    exact then_not (hp.notNormal he) (hQ _ _ _ hp)
  | region _ ih =>
    intro cx w a Q hs hf hd hQ
    exact wp_region (ih cx w a Q hs hf hd hQ)
  | opsNil => intro cx w a Q hs hf hd hQ; exact hQ _ _ _ ⟨cx, Ext.refl _ _, hs, hd, rfl, hf⟩
  | @opsCons ops i l o v fr fr' s s1 s' e ho _ _ ih1 ih2 =>
    intro cx w a Q hs hf hd hQ
    refine wpOp1_ops ho (ih1 cx w a _ _ hs (fun x _ => op_sees hs hf x) (awanted_ok (c := cx) (w := w) (fun _ _ _ _ _ => ⟨fr, hf, rfl⟩)) ?_)
    intro u w' c' hx hs' hu
    exact ih2 c' w' (a.put o.dst u) Q hs' (aput_ok (hf.mono hx) hu) (by cases o.dst <;> exact hd) (fun e2 a2 w2 h2 => hQ e2 a2 w2 (h2.ext hx))
  | @opsPan ops i l o v fr s s1 ho _ ih1 =>
    intro cx w a Q hs hf hd hQ
    refine wpOp1_ops ho (ih1 cx w a _ _ hs (fun x _ => op_sees hs hf x) (awanted_ok (c := cx) (w := w) (fun _ _ _ _ _ => ⟨fr, hf, rfl⟩)) ?_)
    intro u w' c' hx hs' hu
    exact hQ _ _ _ ⟨c', hx, hs', hd, u, rfl, hu⟩
  | @opVal ops o fr s s' v hw h =>
    intro cx w a K Q hs hev hwa hK
    unfold wpOp1
    rw [← hwa, hw]
    simp only [if_true]
    obtain ⟨u, w', c', hr, hx, hs', hu⟩ := aop_ok hs hev h
    unfold Oper.wp
    rcases hr with hr | ⟨hr, rfl⟩
    · rw [hr]; exact hK u w' c' hx hs' hu
    · rw [hr]; exact hK undef w' c' hx hs' hu
  | @opSkip ops o fr s hw =>
    intro cx w a K Q hs hev hwa hK
    unfold wpOp1
    rw [← hwa, hw]
    simp only [Bool.false_eq_true, if_false]
    exact hK undef w cx (Ext.refl _ _) hs (.sc rfl)
  | @opCall ops o fr s s' f args r hw h _ ih =>
    intro cx w a K Q hs hev hwa hK
    unfold wpOp1
    rw [← hwa, hw]
    simp only [if_true]
    obtain ⟨vs, hr, hargs⟩ := aop_ok hs hev h
    unfold Oper.wp
    rw [hr]
    refine (ih cx w vs hs hargs).mono ?_
    rintro e w' ⟨c', hx, hs', h4⟩
    cases r with
    | ret v => obtain ⟨u, rfl, hu⟩ := h4; exact hK u w' c' hx hs' hu
    | pan v => obtain ⟨u, rfl, hu⟩ := h4; exact hK u w' c' hx hs' hu
  | @opPan ops o fr s v hw h =>
    intro cx w a K Q hs hev hwa hK
    unfold wpOp1
    rw [← hwa, hw]
    simp only [if_true]
    obtain ⟨u, hr, hu⟩ := aop_ok hs hev h
    unfold Oper.wp
    rw [hr]
    exact hK u w cx (Ext.refl _ _) hs hu
  | @draw id ops f0 s0 rs vals sts h0 hord hl hq ha ihl =>
    intro cx w a Q hs hf hd hQ
    refine wp_region_any hg.mixed ?_
    obtain ⟨x, st⟩ := hs.same (chg_drew w)
    obtain ⟨c2, x2, st2, hphi⟩ := st.holds rs
    rw [← h0] at st2
    rw [hs.len] at ha
    refine draw_any (nh := rs.length) hord ihl hq cx w ha Q hQ ops.size _ a _ ⟨by simp, ?_, ⟨c2, 0, Nat.zero_le _, ?_, x.trans x2, st2, ?_, ?_⟩, hd⟩ ?_
    · intro i o ho hL
      exfalso
      simp only [Array.getD_eq_getD_getElem?, Array.getElem?_replicate] at hL
      split at hL <;> simp at hL
    · intro l _
      simp only [Array.getD_eq_getD_getElem?, Array.getElem?_replicate]
      split <;> simp
    · have : frX f0 (dstOf ops) vals (fun j => (Array.replicate ops.size false).getD j false) ops.size = f0 := by
        have key : ∀ n, frX f0 (dstOf ops) vals (fun j => (Array.replicate ops.size false).getD j false) n = f0 := by
          intro n
          induction n with
          | zero => rfl
          | succ n ih =>
            simp only [frX, ih]
            rw [if_neg]
            simp only [Array.getD_eq_getD_getElem?, Array.getElem?_replicate]
            split <;> simp
        exact key _
      rw [this]
      exact hf.mono (x.trans x2)
    · intro j y _ _ _ hj
      rw [hphi, List.getElem?_append_right (by omega)]
      simp [List.getElem?_replicate]
      omega
    · have key : ∀ n, cnt (fun j => (Array.replicate ops.size false).getD j false) n = n := by
        intro n
        induction n with
        | zero => rfl
        | succ n ih =>
          simp only [cnt, ih]
          have : (Array.replicate ops.size false).getD n false = false := by
            simp only [Array.getD_eq_getD_getElem?, Array.getElem?_replicate]
            split <;> simp
          simp only [this]; simp
      exact key _
  | @body f fn c args fr' s s' s2 e v hf hb _ he hr hk ih =>
    intro cx w vs hs hargs
    have hl := hargs.len
    refine calls_of_wp hf hb (ih cx w _ _ hs ?_ rfl ?_)
    · simp only [Array.toList_append, Array.toList_replicate]
      rw [List.size_toArray, hl]
      exact hargs.append (RpL.replicate (.sc rfl) _)
    · rintro e' a' w' ⟨c', hx, hs', hd', h4⟩
      have hs2 : St G c' w' s2 := by
        rcases hk with rfl | rfl
        · exact hs'.cut _
        · exact hs'
      rcases he with rfl | rfl
      · obtain ⟨rfl, h5⟩ := h4
        obtain ⟨u, h6, h7⟩ := aresults_ok hs' h5 hr
        exact ⟨hd', u, h6, c', hx, hs2, u, rfl, h7⟩
      · obtain ⟨rfl, h5⟩ := h4
        obtain ⟨u, h6, h7⟩ := aresults_ok hs' h5 hr
        exact ⟨hd', u, h6, c', hx, hs2, u, rfl, h7⟩
  | @bodyP f fn c args fr' s s' v hf hb _ ih =>
    intro cx w vs hs hargs
    have hl := hargs.len
    refine calls_of_wp hf hb (ih cx w _ _ hs ?_ rfl ?_)
    · simp only [Array.toList_append, Array.toList_replicate]
      rw [List.size_toArray, hl]
      exact hargs.append (RpL.replicate (.sc rfl) _)
    · rintro e' a' w' ⟨c', hx, hs', hd', u, rfl, h5⟩
      exact ⟨hd', c', hx, hs'.cut _, u, rfl, h5⟩
  | ext h => exact hg.ext _ _ _ _ _ h
  | hook hh _ hk ih => exact hg.hook _ _ _ _ _ hh _ _ _ _ ih hk
end AI
/- Equality of values, decided; operations that do not read the state. -/
namespace AI
open Go Go.RowKit

def beqV : Value → Value → Bool
  | .int k a, .int k' b => k == k' && a == b
  | .bool a, .bool b => a == b
  | .string a, .string b => a.data.toList == b.data.toList
  | .nilIface, .nilIface => true
  | .nilFunc, .nilFunc => true
  | .pointer none, .pointer none => true
  | .map none, .map none => true
  | .tuple a, .tuple b => a.size == 0 && b.size == 0
  | _, _ => false
theorem beqV_ok {a b : Value} (h : beqV a b = true) : a = b := by
  unfold beqV at h
  split at h
  · simp at h; rw [h.1, h.2]
  · simp at h; rw [h]
  · simp only [beq_iff_eq] at h
    rename_i x y
    have : x = y := ByteArray.ext (Array.ext' h)
    rw [this]
  · rfl
  · rfl
  · rfl
  · rfl
  · rename_i x y
    simp at h
    rw [h.1, h.2]
  · cases h
mutual
def beqA : AV → AV → Bool
  | .sc a, .sc b => beqV a b
  | .agg a, .agg b => beqL a b
  | .tup a, .tup b => beqL a b
  | .sl o n a, .sl p m b => decide (o = p) && n == m && beqL a b
  | .msl a b c, .msl x y z => a == x && b == y && c == z
  | .el a, .el b => beqL a b
  | .ptr a b, .ptr x y => a == x && b == y
  | .fn f a b, .fn g x y => decide (f = g) && beqL a x && beqL b y
  | .ifc t a, .ifc u b => t == u && beqA a b
  | .mp a, .mp b => a == b
  | _, _ => false
def beqL : List AV → List AV → Bool
  | [], [] => true
  | a :: as, b :: bs => beqA a b && beqL as bs
  | _, _ => false
end
mutual
theorem beqA_ok : ∀ {a b : AV}, beqA a b = true → a = b
  | .sc a, b, h => by cases b <;> simp [beqA] at h; rw [beqV_ok h]
  | .agg a, b, h => by cases b <;> simp [beqA] at h; rw [beqL_ok h]
  | .tup a, b, h => by cases b <;> simp [beqA] at h; rw [beqL_ok h]
  | .sl o n a, b, h => by cases b <;> simp [beqA] at h; rw [h.1.1, h.1.2, beqL_ok h.2]
  | .msl _ _ _, b, h => by cases b <;> simp [beqA] at h; rw [h.1.1, h.1.2, h.2]
  | .el a, b, h => by cases b <;> simp [beqA] at h; rw [beqL_ok h]
  | .ptr _ _, b, h => by cases b <;> simp [beqA] at h; rw [h.1, h.2]
  | .fn f a c, b, h => by cases b <;> simp [beqA] at h; rw [h.1.1, beqL_ok h.1.2, beqL_ok h.2]
  | .ifc t a, b, h => by cases b <;> simp [beqA] at h; rw [h.1, beqA_ok h.2]
  | .mp _, b, h => by cases b <;> simp [beqA] at h; rw [h]
  | .any, b, h => by cases b <;> simp [beqA] at h
theorem beqL_ok : ∀ {a b : List AV}, beqL a b = true → a = b
  | [], b, h => by cases b <;> simp [beqL] at h; rfl
  | a :: as, b, h => by cases b <;> simp [beqL] at h; rw [beqA_ok h.1, beqL_ok h.2]
end
/-- operations whose result hangs on the state -/
def reads : Op → Bool
  | .load .. | .lookup .. => true
  | .call cl => (match cl.callee with
    | .builtin .len => true
    | _ => false)
  | _ => false
theorem quiet_val {P : Program} {G : Glob} {fr : List AV} {s : AS} {o : Oper} {r : AR} (hq : quiet o.op = true) (h : aop P G fr s o = some r) : ∃ v, r = .val v s := by
  unfold aop at h
  split at h <;> rename_i ho <;> (try (rw [ho] at hq; simp [quiet] at hq; done))
  all_goals first
    | (obtain ⟨v, _, rfl⟩ := map_some h; exact ⟨_, rfl⟩)
    | (split at h
       all_goals first
         | (obtain ⟨v, _, rfl⟩ := map_some h; exact ⟨_, rfl⟩)
         | (cases h; done)
         | (cases h; exact ⟨_, rfl⟩)
         | (split at h
            all_goals first
              | (cases h; done)
              | (cases h; exact ⟨_, rfl⟩)))
    | (obtain ⟨_, _, h2⟩ := bind_some h; obtain ⟨v, _, rfl⟩ := map_some h2; exact ⟨_, rfl⟩)
    | (rw [ho] at hq
       unfold acall at h
       split at h
       all_goals first
         | (obtain ⟨_, _, h2⟩ := bind_some h; obtain ⟨v, _, rfl⟩ := map_some h2; exact ⟨_, rfl⟩)
         | (rename_i hcl; simp [quiet, hcl] at hq; done)
         | (split at h
            all_goals first
              | (obtain ⟨v, _, rfl⟩ := map_some h; exact ⟨_, rfl⟩)
              | (cases h; done))
         | (cases h; done))
    | (cases h; done)
theorem quiet_free {P : Program} {G : Glob} {fr : List AV} {s : AS} {o : Oper} {v : AV} {s' : AS} (hq : quiet o.op = true) (hr : reads o.op = false) (h : aop P G fr s o = some (.val v s')) (s2 : AS) : aop P G fr s2 o = some (.val v s2) := by
  have e := quiet_val hq h
  obtain ⟨v', e⟩ := e
  injection e with e1 e2
  subst e1 e2
  obtain ⟨dst, op, ty, pos, after, guard⟩ := o
  cases op <;> simp only [quiet, reads, Bool.false_eq_true] at hq hr <;> simp only [aop] at h ⊢
  all_goals first
    | (obtain ⟨v', h1, h2⟩ := map_some h; injection h2 with h2; subst h2; rw [h1]; rfl)
    | (obtain ⟨q, h0, h2⟩ := bind_some h; obtain ⟨v', h1, h3⟩ := map_some h2; injection h3 with h3; subst h3; rw [h0, Option.bind_some, h1]; rfl)
    | (split at h
       all_goals first
         | (obtain ⟨v', h1, h2⟩ := map_some h; injection h2 with h2; subst h2; simp only [*, Option.map_some]; done)
         | (cases h; done)
         | (cases h; simp only [*]; done)
         | (split at h
            all_goals first
              | (cases h; done)
              | (cases h; simp [*]; done)))
    | (cases hr; done)
    | (rename_i cl
       unfold acall at h ⊢
       split at h
       all_goals first
         | (rename_i hcl; simp [hcl] at hr; done)
         | (rename_i hcl; simp [hcl] at hq; done)
         | (simp only; obtain ⟨q, h0, h2⟩ := bind_some h; obtain ⟨v', h1, h3⟩ := map_some h2; injection h3 with h3; subst h3; rw [h0, Option.bind_some, h1]; rfl)
         | (cases h; done))
end AI
/- Abstract runs, computed. -/
namespace AI
open Go Go.RowKit

inductive Tk where
  | code (c : Code) (fr : List AV) (s : AS)
  | loop (c : Code) (fr : List AV) (s : AS)
  | ops (ops : Array Oper) (l : List Oper) (fr : List AV) (s : AS)
  | draw (ops : Array Oper) (l : List Oper) (fr : List AV) (s : AS) (q : Nat)
  | op (ops : Array Oper) (o : Oper) (fr : List AV) (s : AS)
  | call (f : FuncId) (args : List AV) (s : AS)
inductive Rs where
  | code (e : AX) (fr : List AV) (s : AS)
  | call (r : CR) (s : AS)
  | tr (l : List (List AV × AS × AV)) (fr : List AV) (s : AS)
abbrev ExtsF := FuncId → List AV → AS → Option (CR × AS)
def loudsOf : List Oper → Nat → List Nat
  | [], _ => []
  | o :: os, i => if calm o.op then loudsOf os (i + 1) else i :: loudsOf os (i + 1)
def winB (ms : List Nat) (ls : List Nat) (i k : Nat) : Bool := ls.all fun l => (!dep ms i l || decide (l < k)) && (!dep ms l i || decide (k ≤ l))
/-- the load gives the same at every state from k on that it may meet -/
def sameAll (P : Program) (G : Glob) (ms ls : List Nat) (i : Nat) (o : Oper) (fr : List AV) (v : AV) : List AS → Nat → Bool
  | [], _ => true
  | s :: ss, k => (!winB ms ls i k || (match aop P G fr s o with
      | some (.val u _) => beqA u v
      | _ => false)) && sameAll P G ms ls i o fr v ss (k + 1)
def stableL (P : Program) (G : Glob) (ops : Array Oper) (ms ls : List Nat) (sts : List AS) : List Oper → List (List AV × AS × AV) → Nat → Bool
  | o :: os, t :: ts, i => (!(quiet o.op && reads o.op) || !awanted ops t.1 o || sameAll P G ms ls i o t.1 t.2.2 sts 0) && stableL P G ops ms ls sts os ts (i + 1)
  | _, _, _ => true
def boxAll (ms ls : List Nat) (i id : Nat) (cs : List AV) : List AS → Nat → Bool
  | [], _ => true
  | s :: ss, k => (!winB ms ls i k || (match s.get id with
      | some (.cells ds) => beqL ds cs
      | _ => false)) && boxAll ms ls i id cs ss (k + 1)
/-- the boxes kept free are still as they were when they are filled -/
def allocL (P : Program) (ops : Array Oper) (ms ls : List Nat) (sts : List AS) : List Oper → List (List AV × AS × AV) → Nat → Nat → Bool
  | o :: os, t :: ts, i, q => (match o.op with
    | .alloc e => (!awanted ops t.1 o || (match azero P e with
      | some z => boxAll ms ls i q (cellsOf z) sts 0
      | none => false)) && allocL P ops ms ls sts os ts (i + 1) (q + 1)
    | _ => allocL P ops ms ls sts os ts (i + 1) q)
  | _, _, _, _ => true
def rsv (P : Program) : List Oper → Option (List ABlk)
  | [] => some []
  | o :: l => (match o.op with
    | .alloc e => (match azero P e, rsv P l with
      | some z, some r => some (.cells (cellsOf z) :: r)
      | _, _ => none)
    | _ => rsv P l)
def stable0 (P : Program) (G : Glob) (ops : Array Oper) (tr : List (List AV × AS × AV)) (sf : AS) : Bool :=
  match loudsOf ops.toList 0 with
  | [] => true
  | ls => stableL P G ops (masks ops.toList []) ls (tr.map (·.2.1) ++ [sf]) ops.toList tr 0
def stable1 (P : Program) (ops : Array Oper) (tr : List (List AV × AS × AV)) (sf : AS) (q : Nat) : List ABlk → Bool
  | [] => true
  | _ => allocL P ops (masks ops.toList []) (loudsOf ops.toList 0) (tr.map (·.2.1) ++ [sf]) ops.toList tr 0 q
def stable (P : Program) (G : Glob) (ops : Array Oper) (tr : List (List AV × AS × AV)) (sf : AS) (q : Nat) (r : List ABlk) : Bool :=
  match stable0 P G ops tr sf with
  | true => stable1 P ops tr sf q r
  | false => false
/-- does the value name boxes? -/
def esc1 : AV → Bool
  | .ptr _ _ | .msl _ _ _ | .mp _ | .fn _ _ _ => true
  | _ => false
def escL : List AV → Bool
  | [] => false
  | a :: l => match esc1 a with
    | true => true
    | false => escL l
def esc : AV → Bool
  | .agg l => escL l
  | .tup l => escL l
  | a => esc1 a
/-- the state behind a call: boxes of the call are dropped unless the result names boxes -/
def fin (v : AV) (s : AS) (n : Nat) : AS := match esc v with
  | true => s
  | false => s.cut n
theorem fin_or (v : AV) (s : AS) (n : Nat) : fin v s n = s.cut n ∨ fin v s n = s := by
  unfold fin
  cases esc v
  · exact .inl rfl
  · exact .inr rfl
abbrev XP (X : ExtsF) : Exts := fun f args s r s' => X f args s = some (r, s')
/-- what an allocation gives -/
def allocV (ops : Array Oper) (fr : List AV) (o : Oper) (q : Nat) : AV := match awanted ops fr o with
  | true => .ptr q 0
  | false => .sc undef
inductive TrOk (P : Program) (G : Glob) (X : Exts) (H : Hook) (ops : Array Oper) : Nat → List Oper → List AV → AS → List (List AV × AS × AV) → List AV → AS → Prop where
  | nil {q : Nat} {fr : List AV} {s : AS} : TrOk P G X H ops q [] fr s [] fr s
  | cons {q : Nat} {o : Oper} {l : List Oper} {fr fr' : List AV} {s s1 s' : AS} {v : AV} {t : List (List AV × AS × AV)} (ha : isAlloc o.op = false) (h : J P G X H (.op ops o fr s (.ret v) s1)) (k : TrOk P G X H ops q l (aput fr o.dst v) s1 t fr' s') : TrOk P G X H ops q (o :: l) fr s ((fr, s, v) :: t) fr' s'
  | alloc {q : Nat} {o : Oper} {l : List Oper} {fr fr' : List AV} {s s' : AS} {t : List (List AV × AS × AV)} (ha : isAlloc o.op = true) (k : TrOk P G X H ops (q + 1) l (aput fr o.dst (allocV ops fr o q)) s t fr' s') : TrOk P G X H ops q (o :: l) fr s ((fr, s, allocV ops fr o q) :: t) fr' s'
def Rt (P : Program) (G : Glob) (X : Exts) (H : Hook) : Tk → Rs → Prop
  | .code c fr s, .code e fr' s' => J P G X H (.code c fr s e fr' s')
  | .loop c fr s, .code e fr' s' => J P G X H (.loop c fr s e fr' s')
  | .ops ops l fr s, .code e fr' s' => ∀ k, l = ops.toList.drop k → J P G X H (.ops ops (List.range' k l.length) fr s e fr' s')
  | .draw ops l fr s q, .tr t fr' s' => TrOk P G X H ops q l fr s t fr' s'
  | .op ops o fr s, .call r s' => J P G X H (.op ops o fr s r s')
  | .call f args s, .call r s' => J P G X H (.call f args s r s')
  | _, _ => False
section
variable {P : Program} {G : Glob} {X : Exts} {H : Hook} {ops : Array Oper}
theorem TrOk.len {q : Nat} {l : List Oper} {fr fr' : List AV} {s s' : AS} {t : List (List AV × AS × AV)} (h : TrOk P G X H ops q l fr s t fr' s') : t.length = l.length := by
  induction h with
  | nil => rfl
  | cons _ _ _ ih => simp [ih]
  | alloc _ _ ih => simp [ih]
/-- the states, before each operation and at the end -/
def stAt (t : List (List AV × AS × AV)) (sf : AS) (i : Nat) : AS := match t[i]? with
  | some x => x.2.1
  | none => sf
def vlAt (t : List (List AV × AS × AV)) (i : Nat) : AV := match t[i]? with
  | some x => x.2.2
  | none => .sc undef
theorem TrOk.at {q : Nat} {l : List Oper} {fr fr' : List AV} {s s' : AS} {t : List (List AV × AS × AV)} (h : TrOk P G X H ops q l fr s t fr' s') : stAt t s' 0 = s ∧ ∀ i o, l[i]? = some o → ∃ fi, t[i]? = some (fi, stAt t s' i, vlAt t i) ∧
    ((isAlloc o.op = false ∧ J P G X H (.op ops o fi (stAt t s' i) (.ret (vlAt t i)) (stAt t s' (i + 1)))) ∨ (isAlloc o.op = true ∧ stAt t s' (i + 1) = stAt t s' i ∧ vlAt t i = allocV ops fi o (q + rkL l i))) := by
  induction h with
  | nil => exact ⟨rfl, fun i o ho => by simp at ho⟩
  | @cons q o l fr fr' s s1 s' v t ha h k ih =>
    refine ⟨rfl, fun i o' ho => ?_⟩
    cases i with
    | zero =>
      simp at ho; subst ho
      refine ⟨fr, rfl, .inl ⟨ha, ?_⟩⟩
      have : stAt ((fr, s, v) :: t) s' 1 = s1 := by
        have := ih.1
        unfold stAt at this ⊢
        simpa using this
      rw [this]
      exact h
    | succ i =>
      obtain ⟨fi, h1, h2⟩ := ih.2 i o' (by simpa using ho)
      refine ⟨fi, ?_, ?_⟩
      · have : ((fr, s, v) :: t)[i + 1]? = t[i]? := by simp
        rw [this, h1]
        simp [stAt, vlAt]
      · simp only [rkL, ha, Nat.zero_add]
        simpa [stAt, vlAt] using h2
  | @alloc q o l fr fr' s s' t ha k ih =>
    refine ⟨rfl, fun i o' ho => ?_⟩
    cases i with
    | zero =>
      simp at ho; subst ho
      refine ⟨fr, rfl, .inr ⟨ha, ?_, ?_⟩⟩
      · have := ih.1
        unfold stAt at this ⊢
        simpa using this
      · simp [vlAt, rkL]
    | succ i =>
      obtain ⟨fi, h1, h2⟩ := ih.2 i o' (by simpa using ho)
      refine ⟨fi, ?_, ?_⟩
      · have : ((fr, s, allocV ops fr o q) :: t)[i + 1]? = t[i]? := by simp
        rw [this, h1]
        simp [stAt, vlAt]
      · simp only [rkL, ha]
        rw [← Nat.add_assoc]
        simpa [stAt, vlAt] using h2
/-- the frames are what the values put one behind the other make -/
theorem TrOk.frames {q : Nat} {l : List Oper} {fr fr' : List AV} {s s' : AS} {t : List (List AV × AS × AV)} (h : TrOk P G X H ops q l fr s t fr' s') (dst : Nat → Option Tmp) (vals : Nat → AV) (f0 : List AV) (k : Nat) (hfr : fr = frX f0 dst vals (fun _ => true) k) (hd : ∀ i o, l[i]? = some o → dst (k + i) = o.dst) (hv : ∀ i, vals (k + i) = vlAt t i ∨ l.length ≤ i) :
    fr' = frX f0 dst vals (fun _ => true) (k + l.length) ∧ ∀ i x, t[i]? = some x → x.1 = frX f0 dst vals (fun _ => true) (k + i) := by
  have key : ∀ {q : Nat} {o : Oper} {l : List Oper} {fr fr' : List AV} {s : AS} {v : AV} {t : List (List AV × AS × AV)}
      (_ : ∀ (k : Nat), aput fr o.dst v = frX f0 dst vals (fun _ => true) k → (∀ i o, l[i]? = some o → dst (k + i) = o.dst) → (∀ i, vals (k + i) = vlAt t i ∨ l.length ≤ i) → fr' = frX f0 dst vals (fun _ => true) (k + l.length) ∧ ∀ i x, t[i]? = some x → x.1 = frX f0 dst vals (fun _ => true) (k + i))
      (k : Nat), fr = frX f0 dst vals (fun _ => true) k → (∀ i o', (o :: l)[i]? = some o' → dst (k + i) = o'.dst) → (∀ i, vals (k + i) = vlAt ((fr, s, v) :: t) i ∨ (o :: l).length ≤ i) →
      fr' = frX f0 dst vals (fun _ => true) (k + (o :: l).length) ∧ ∀ i x, ((fr, s, v) :: t)[i]? = some x → x.1 = frX f0 dst vals (fun _ => true) (k + i) := by
    intro q o l fr fr' s v t ih k hfr hd hv
    have hd0 := hd 0 o rfl
    have hv0 : vals k = v := by
      rcases hv 0 with h0 | h0
      · simpa [vlAt] using h0
      · simp at h0
    have := ih (k + 1) (by simp only [frX, if_true]; rw [hfr, ← hd0, hv0]; rfl) (fun i o' ho' => by have := hd (i + 1) o' (by simpa using ho'); rwa [show k + 1 + i = k + (i + 1) from by omega]) (fun i => by
      rcases hv (i + 1) with h1 | h1
      · left; rw [show k + 1 + i = k + (i + 1) from by omega, h1]; simp [vlAt]
      · right; simp at h1; omega)
    refine ⟨by rw [this.1]; congr 1; simp; omega, fun i x hx => ?_⟩
    cases i with
    | zero => simp at hx; subst hx; exact hfr
    | succ i =>
      have h2 := this.2 i x (by simpa using hx)
      rw [h2]; congr 1; omega
  induction h generalizing k with
  | nil => exact ⟨hfr, fun i x hx => by simp at hx⟩
  | @cons q o l fr fr' s s1 s' v t ha h _ ih => exact key (q := q) (fun k h1 h2 h3 => ih k h1 h2 h3) k hfr hd hv
  | @alloc q o l fr fr' s s' t ha _ ih => exact key (q := q) (fun k h1 h2 h3 => ih k h1 h2 h3) k hfr hd hv
theorem loudsOf_mem {os : List Oper} {i l : Nat} {o : Oper} (ho : os[l]? = some o) (hq : calm o.op = false) : i + l ∈ loudsOf os i := by
  induction os generalizing i l with
  | nil => simp at ho
  | cons x os ih =>
    simp only [loudsOf]
    cases l with
    | zero =>
      simp at ho; subst ho
      rw [hq]; simp
    | succ l =>
      have := ih (i := i + 1) (by simpa using ho)
      rw [show i + 1 + l = i + (l + 1) from by omega] at this
      split
      · exact this
      · exact List.mem_cons_of_mem _ this
theorem winB_ok {i k : Nat} {ls : List Nat} (hls : ∀ l, l ∈ ls → loud ops l) (h : Win ops i k) : winB (masks ops.toList []) ls i k = true := by
  unfold winB
  rw [List.all_eq_true]
  intro l hl
  have h1 := h.1 l (hls l hl)
  have h2 := h.2 l (hls l hl)
  cases hd1 : dep (masks ops.toList []) i l <;> cases hd2 : dep (masks ops.toList []) l i <;> simp_all
theorem loudsOf_loud {os : List Oper} {i l : Nat} (h : l ∈ loudsOf os i) : ∃ j o, l = i + j ∧ os[j]? = some o ∧ calm o.op = false := by
  induction os generalizing i with
  | nil => simp [loudsOf] at h
  | cons x os ih =>
    simp only [loudsOf] at h
    split at h
    · obtain ⟨j, o, h1, h2, h3⟩ := ih h
      exact ⟨j + 1, o, by omega, by simpa using h2, h3⟩
    · rename_i hq
      rcases List.mem_cons.1 h with h | h
      · exact ⟨0, x, by omega, rfl, by simpa using hq⟩
      · obtain ⟨j, o, h1, h2, h3⟩ := ih h
        exact ⟨j + 1, o, by omega, by simpa using h2, h3⟩
theorem sameAll_ok {ms ls : List Nat} {i : Nat} {o : Oper} {fr : List AV} {v : AV} {ss : List AS} {k0 : Nat} (h : sameAll P G ms ls i o fr v ss k0 = true) {k : Nat} {s : AS} (hs : ss[k]? = some s) (hw : winB ms ls i (k0 + k) = true) : ∃ s', aop P G fr s o = some (.val v s') := by
  induction ss generalizing k0 k with
  | nil => simp at hs
  | cons x ss ih =>
    simp only [sameAll, Bool.and_eq_true] at h
    cases k with
    | zero =>
      simp at hs; subst hs
      rw [Nat.add_zero] at hw
      have h1 := h.1
      rw [hw] at h1
      simp only [Bool.not_true, Bool.false_or] at h1
      split at h1
      · rename_i u s' hu
        exact ⟨s', by rw [hu, beqA_ok h1]⟩
      · cases h1
    | succ k => exact ih h.2 (by simpa using hs) (by rwa [show k0 + 1 + k = k0 + (k + 1) from by omega])
theorem stableL_ok {ms ls : List Nat} {sts : List AS} {os : List Oper} {ts : List (List AV × AS × AV)} {i0 : Nat} (h : stableL P G ops ms ls sts os ts i0 = true) {i : Nat} {o : Oper} {x : List AV × AS × AV} (ho : os[i]? = some o) (hx : ts[i]? = some x) : (quiet o.op && reads o.op) = true → awanted ops x.1 o = true → sameAll P G ms ls (i0 + i) o x.1 x.2.2 sts 0 = true := by
  induction os generalizing ts i0 i with
  | nil => simp at ho
  | cons y os ih =>
    cases ts with
    | nil => simp at hx
    | cons t ts =>
      simp only [stableL, Bool.and_eq_true] at h
      cases i with
      | zero =>
        simp at ho hx; subst ho hx
        intro h1 h2
        have := h.1
        rw [h1, h2] at this
        simpa using this
      | succ i =>
        have := ih h.2 (by simpa using ho) (by simpa using hx)
        rwa [show i0 + 1 + i = i0 + (i + 1) from by omega] at this
/-- an operation that is quiet: how it was done -/
theorem quiet_inv {o : Oper} {fr : List AV} {s s' : AS} {v : AV} (hq : quiet o.op = true) (h : J P G X H (.op ops o fr s (.ret v) s')) : s' = s ∧ ((awanted ops fr o = false ∧ v = .sc undef) ∨ (awanted ops fr o = true ∧ aop P G fr s o = some (.val v s))) := by
  cases h with
  | opVal hw h =>
    obtain ⟨v', e⟩ := quiet_val hq h
    injection e with e1 e2
    subst e2
    exact ⟨rfl, .inr ⟨hw, h⟩⟩
  | opSkip hw => exact ⟨rfl, .inl ⟨hw, rfl⟩⟩
  | opCall hw h hc =>
    obtain ⟨v', e⟩ := quiet_val hq h
    cases e
theorem boxAll_ok {ms ls : List Nat} {i id : Nat} {cs : List AV} {ss : List AS} {k0 : Nat} (h : boxAll ms ls i id cs ss k0 = true) {k : Nat} {s : AS} (hs : ss[k]? = some s) (hw : winB ms ls i (k0 + k) = true) : s.get id = some (.cells cs) := by
  induction ss generalizing k0 k with
  | nil => simp at hs
  | cons x ss ih =>
    simp only [boxAll, Bool.and_eq_true] at h
    cases k with
    | zero =>
      simp at hs; subst hs
      rw [Nat.add_zero] at hw
      have h1 := h.1
      rw [hw] at h1
      simp only [Bool.not_true, Bool.false_or] at h1
      split at h1
      · rename_i ds hu
        rw [hu, beqL_ok h1]
      · cases h1
    | succ k => exact ih h.2 (by simpa using hs) (by rwa [show k0 + 1 + k = k0 + (k + 1) from by omega])
theorem allocL_ok {ms ls : List Nat} {sts : List AS} {os : List Oper} {ts : List (List AV × AS × AV)} {i0 q : Nat} (h : allocL P ops ms ls sts os ts i0 q = true) {i : Nat} {o : Oper} {e : TypeId} {x : List AV × AS × AV} (ho : os[i]? = some o) (hx : ts[i]? = some x) (he : o.op = .alloc e) (hw : awanted ops x.1 o = true) : ∃ z, azero P e = some z ∧ boxAll ms ls (i0 + i) (q + rkL os i) (cellsOf z) sts 0 = true := by
  induction os generalizing ts i0 i q with
  | nil => simp at ho
  | cons y os ih =>
    cases ts with
    | nil => simp at hx
    | cons t ts =>
      cases i with
      | zero =>
        simp at ho hx; subst ho hx
        simp only [allocL, he, hw, Bool.not_true, Bool.false_or, Bool.and_eq_true] at h
        have h1 := h.1
        split at h1
        · rename_i z hz; exact ⟨z, hz, h1⟩
        · cases h1
      | succ i =>
        simp only [allocL] at h
        split at h
        · rename_i e' he'
          rw [Bool.and_eq_true] at h
          have := ih h.2 (by simpa using ho) (by simpa using hx)
          simp only [rkL, he', isAlloc]
          rwa [show i0 + 1 + i = i0 + (i + 1) from by omega, Nat.add_assoc q] at this
        · rename_i hne
          have := ih h (by simpa using ho) (by simpa using hx)
          have hna : isAlloc y.op = false := by
            cases hya : isAlloc y.op with
            | false => rfl
            | true => obtain ⟨e', he'⟩ := isAlloc_ok hya; exact absurd he' (hne e')
          simp only [rkL, hna, Nat.zero_add]
          rwa [show i0 + 1 + i = i0 + (i + 1) from by omega] at this
theorem rsv_len {l : List Oper} {r : List ABlk} (h : rsv P l = some r) : r.length = rkL l l.length := by
  induction l generalizing r with
  | nil => simp [rsv] at h; subst h; rfl
  | cons o l ih =>
    simp only [rsv] at h
    split at h
    · rename_i e he
      split at h
      · rename_i z r' hz hr
        cases h
        simp only [List.length_cons, rkL, he, isAlloc, ih hr]; omega
      · cases h
    · rename_i hne
      have hna : isAlloc o.op = false := by
        cases hya : isAlloc o.op with
        | false => rfl
        | true => obtain ⟨e', he'⟩ := isAlloc_ok hya; exact absurd he' (hne e')
      simp only [List.length_cons, rkL, hna, ih h]; omega
theorem alloc_not_quiet {o : Oper} {e : TypeId} (h : o.op = .alloc e) : quiet o.op = false := by rw [h]; rfl
theorem draw_of {id : Nat} {fr fr' : List AV} {s s' : AS} {r : List ABlk} {t : List (List AV × AS × AV)} (hord : ordOk ops = true) (hr : rsv P ops.toList = some r) (h : TrOk P G X H ops s.nx ops.toList fr (s.hold r) t fr' s') (hst : stable P G ops t s' s.nx r = true) : J P G X H (.code (.region id ops true) fr s .normal fr' s') := by
  have hlen : t.length = ops.size := by rw [h.len, Array.length_toList]
  have hst0 : stable0 P G ops t s' = true := by
    unfold stable at hst
    split at hst
    · assumption
    · cases hst
  have hst1 : stable1 P ops t s' s.nx r = true := by
    unfold stable at hst
    split at hst
    · exact hst
    · cases hst
  obtain ⟨h0, hat⟩ := h.at
  have hdst : ∀ i o, ops[i]? = some o → dstOf ops i = o.dst := fun i o ho => by unfold dstOf; rw [ho]; rfl
  obtain ⟨hfin, hfrs⟩ := h.frames (dstOf ops) (vlAt t) fr 0 rfl (fun i o ho => by rw [Nat.zero_add]; exact hdst i o (by rw [← Array.getElem?_toList]; exact ho)) (fun i => .inl (by rw [Nat.zero_add]))
  rw [Nat.zero_add, Array.length_toList] at hfin
  have hall : ∀ i o, ops[i]? = some o → isAlloc o.op = false → J P G X H (.op ops o (frX fr (dstOf ops) (vlAt t) (fun _ => true) i) (stAt t s' i) (.ret (vlAt t i)) (stAt t s' (i + 1))) := by
    intro i o ho hna
    obtain ⟨fi, h1, h2⟩ := hat i o (toList_get ho)
    have := hfrs i _ h1
    simp only [Nat.zero_add] at this
    rcases h2 with ⟨_, h2⟩ | ⟨h2, _⟩
    · rw [← this]
      exact h2
    · rw [hna] at h2; cases h2
  have hallA : ∀ i o, ops[i]? = some o → isAlloc o.op = true → stAt t s' (i + 1) = stAt t s' i ∧ vlAt t i = allocV ops (frX fr (dstOf ops) (vlAt t) (fun _ => true) i) o (s.nx + rk ops i) := by
    intro i o ho hya
    obtain ⟨fi, h1, h2⟩ := hat i o (toList_get ho)
    have := hfrs i _ h1
    simp only [Nat.zero_add] at this
    rcases h2 with ⟨h2, _⟩ | ⟨_, h2⟩
    · rw [hya] at h2; cases h2
    · rw [← this]
      exact h2
  have hna : ∀ o : Oper, quiet o.op = true → isAlloc o.op = false := by
    intro o hq
    cases hya : isAlloc o.op with
    | false => rfl
    | true => obtain ⟨e, he⟩ := isAlloc_ok hya; rw [alloc_not_quiet he] at hq; cases hq
  have hnl : ∀ o : Oper, calm o.op = false → isAlloc o.op = false := by
    intro o hq
    cases hya : isAlloc o.op with
    | false => rfl
    | true => unfold calm at hq; rw [hya] at hq; cases hq
  have hsn : stAt t s' ops.size = s' := by
    unfold stAt
    rw [List.getElem?_eq_none (by omega)]
  have hsk : ∀ k, k ≤ ops.size → (t.map (fun x => x.2.1) ++ [s'])[k]? = some (stAt t s' k) := by
    intro k hk
    unfold stAt
    by_cases hkt : k < t.length
    · rw [List.getElem?_append_left (by simpa using hkt), List.getElem?_map, List.getElem?_eq_getElem hkt]; rfl
    · have : k = t.length := by omega
      subst this
      rw [List.getElem?_append_right (by simp)]
      simp
  have hloud : ∀ l, l ∈ loudsOf ops.toList 0 → loud ops l := by
    intro l hl
    obtain ⟨j, o', e, h5, h6⟩ := loudsOf_loud hl
    rw [Nat.zero_add] at e
    subst e
    exact ⟨o', by rw [← Array.getElem?_toList]; exact h5, h6⟩
  have hquiet : ∀ i o, ops[i]? = some o → calm o.op = true → stAt t s' (i + 1) = stAt t s' i := by
    intro i o ho hq
    rcases calm_cases hq with hq | ⟨e, he⟩
    · exact (quiet_inv hq (hall i o ho (hna o hq))).1
    · exact (hallA i o ho (by rw [he]; rfl)).1
  have key := J.draw (P := P) (G := G) (X := X) (H := H) (id := id) (f0 := fr) (s0 := s) r (vlAt t) (stAt t s') h0 hord (fun i o ho hl => hall i o ho (hnl o hl)) (fun i o ho hq => by
    obtain ⟨h1, h2⟩ := quiet_inv hq (hall i o ho (hna o hq))
    refine ⟨h1, ?_⟩
    rcases h2 with h2 | ⟨hw, h2⟩
    · exact .inl h2
    · refine .inr ⟨hw, fun k hk hwin => ?_⟩
      cases hr : reads o.op with
      | false => exact quiet_free hq hr h2 _
      | true =>
        unfold stable0 at hst0
        split at hst0
        · rename_i hls
          have hno : ∀ m, ¬ loud ops m := by
            rintro m ⟨y, hy, hyq⟩
            have := loudsOf_mem (i := 0) (toList_get hy) hyq
            rw [hls] at this; cases this
          have hi := (Array.getElem?_eq_some_iff.1 ho).1
          have e1 : stAt t s' 0 = stAt t s' k := sts_eq hquiet k (Nat.zero_le _) hk (fun m _ _ => hno m)
          have e2 : stAt t s' 0 = stAt t s' i := sts_eq hquiet i (Nat.zero_le _) (by omega) (fun m _ _ => hno m)
          rw [← e1, e2]
          exact h2
        · obtain ⟨fi, hti, _⟩ := hat i o (toList_get ho)
          have hfi := hfrs i _ hti
          simp only [Nat.zero_add] at hfi
          have hs2 := stableL_ok hst0 (toList_get ho) hti (by rw [hq, hr]; rfl) (by rw [hfi]; exact hw)
          rw [Nat.zero_add] at hs2
          obtain ⟨s2, hs3⟩ := sameAll_ok hs2 (hsk k hk) (by
            rw [Nat.zero_add]
            exact winB_ok hloud hwin)
          obtain ⟨v', e⟩ := quiet_val hq hs3
          injection e with _ e2
          subst e2
          rw [← hfi]
          exact hs3) (fun i o e ho he => by
    have hya : isAlloc o.op = true := by rw [he]; rfl
    obtain ⟨h1, h2⟩ := hallA i o ho hya
    refine ⟨h1, ?_⟩
    have hrk : rk ops i < r.length := by
      rw [rsv_len hr]
      exact rkL_lt (toList_get ho) hya (by rw [Array.length_toList]; exact (Array.getElem?_eq_some_iff.1 ho).1)
    cases hw : awanted ops (frX fr (dstOf ops) (vlAt t) (fun _ => true) i) o with
    | false => unfold allocV at h2; rw [hw] at h2; exact .inl ⟨rfl, h2⟩
    | true =>
      unfold allocV at h2; rw [hw] at h2
      obtain ⟨fi, hti, _⟩ := hat i o (toList_get ho)
      have hfi := hfrs i _ hti
      simp only [Nat.zero_add] at hfi
      have hal : allocL P ops (masks ops.toList []) (loudsOf ops.toList 0) (t.map (·.2.1) ++ [s']) ops.toList t 0 s.nx = true := by
        unfold stable1 at hst1
        split at hst1
        · simp at hrk
        · exact hst1
      obtain ⟨z, hz, hbx⟩ := allocL_ok hal (toList_get ho) hti he (by rw [hfi]; exact hw)
      rw [Nat.zero_add] at hbx
      exact .inr ⟨rfl, z, hz, hrk, h2, fun k hk hwin => boxAll_ok hbx (hsk k hk) (by rw [Nat.zero_add]; exact winB_ok hloud hwin)⟩)
  rw [← hfin, hsn] at key
  exact key
end
end AI
/- Numbers and strings, quicker for the kernel. -/
namespace AI
open Go Go.RowKit

def inI : Int → Bool
  | .ofNat m => Nat.ble m 9223372036854775807
  | .negSucc m => Nat.ble m 9223372036854775807
def wrapF (k : IntKind) (n : Int) : Int := match k with
  | .i64 => (match inI n with | true => n | false => IntKind.i64.wrap n)
  | k => k.wrap n
theorem inI_ok {n : Int} (h : inI n = true) : IntKind.i64.wrap n = n := by
  refine IntWalk.i64_in n ?_
  cases n with
  | ofNat m =>
    have := Nat.le_of_ble_eq_true h
    have e : Int.ofNat m = (m : Int) := rfl
    rw [e]
    have h2 : (m : Int) ≤ 9223372036854775807 := Int.ofNat_le.2 this
    have h3 : (0 : Int) ≤ m := Int.natCast_nonneg m
    omega
  | negSucc m =>
    have := Nat.le_of_ble_eq_true h
    rw [Int.negSucc_eq]
    constructor
    · have e : (-9223372036854775808 : Int) = -(9223372036854775807 + 1) := rfl
      rw [e]
      have h2 : (m : Int) ≤ 9223372036854775807 := Int.ofNat_le.2 this
      omega
    · have h2 : (0 : Int) ≤ m := Int.natCast_nonneg m
      omega
theorem wrapF_eq (k : IntKind) (n : Int) : wrapF k n = k.wrap n := by
  cases k <;> try rfl
  simp only [wrapF]
  cases h : inI n with
  | true => exact (inI_ok h).symm
  | false => rfl
def addI : Int → Int → Int
  | .ofNat a, .ofNat b => .ofNat (Nat.add a b)
  | a, b => a + b
theorem addI_eq (a b : Int) : addI a b = a + b := by cases a <;> cases b <;> rfl
def subN (a b : Nat) : Int := match Nat.ble b a with
  | true => .ofNat (Nat.sub a b)
  | false => (a : Int) - (b : Int)
def subI : Int → Int → Int
  | .ofNat a, .ofNat b => subN a b
  | a, b => a - b
theorem subI_eq (a b : Int) : subI a b = a - b := by
  cases a <;> cases b <;> try rfl
  rename_i a b
  simp only [subI, subN]
  cases h : Nat.ble b a with
  | true =>
    have := Nat.le_of_ble_eq_true h
    show Int.ofNat (a - b) = (a : Int) - (b : Int)
    exact Int.ofNat_sub this
  | false => rfl
def eqI : Int → Int → Bool
  | .ofNat a, .ofNat b => Nat.beq a b
  | .negSucc a, .negSucc b => Nat.beq a b
  | _, _ => false
theorem eqI_eq (a b : Int) : eqI a b = (a == b) := by
  cases a <;> cases b <;> simp only [eqI]
  · rename_i a b
    rw [Bool.eq_iff_iff, beq_iff_eq, Int.ofNat.injEq]
    exact ⟨fun h => Nat.eq_of_beq_eq_true h, fun h => by subst h; exact Nat.beq_refl a⟩
  · rw [Bool.eq_iff_iff, beq_iff_eq]; exact ⟨fun h => by simp at h, fun h => by cases h⟩
  · rw [Bool.eq_iff_iff, beq_iff_eq]; exact ⟨fun h => by simp at h, fun h => by cases h⟩
  · rename_i a b
    rw [Bool.eq_iff_iff, beq_iff_eq, Int.negSucc.injEq]
    exact ⟨fun h => Nat.eq_of_beq_eq_true h, fun h => by subst h; exact Nat.beq_refl a⟩
def leI : Int → Int → Bool
  | .ofNat a, .ofNat b => Nat.ble a b
  | a, b => decide (a ≤ b)
theorem leI_eq (a b : Int) : leI a b = decide (a ≤ b) := by
  cases a <;> cases b <;> try rfl
  rename_i a b
  simp only [leI]
  rw [Bool.eq_iff_iff, decide_eq_true_iff]
  show _ ↔ (a : Int) ≤ (b : Int)
  rw [Int.ofNat_le]
  exact ⟨Nat.le_of_ble_eq_true, Nat.ble_eq_true_of_le⟩
def ltI : Int → Int → Bool
  | .ofNat a, .ofNat b => Nat.ble (Nat.succ a) b
  | a, b => decide (a < b)
theorem ltI_eq (a b : Int) : ltI a b = decide (a < b) := by
  cases a <;> cases b <;> try rfl
  rename_i a b
  simp only [ltI]
  rw [Bool.eq_iff_iff, decide_eq_true_iff]
  show _ ↔ (a : Int) < (b : Int)
  rw [Int.ofNat_lt]
  exact ⟨Nat.le_of_ble_eq_true, Nat.ble_eq_true_of_le⟩
def sameKind : IntKind → IntKind → Bool
  | .i64, .i64 => true
  | .u8, .u8 => true
  | _, _ => false
theorem sameKind_ok {a b : IntKind} (h : sameKind a b = true) : a = b := by cases a <;> cases b <;> first | rfl | cases h
/-- the operators that are frequent -/
def intF (k : IntKind) (a b : Int) : BinOp → Option Value
  | .add => some (.int k (wrapF k (addI a b)))
  | .sub => some (.int k (wrapF k (subI a b)))
  | .eql => some (.bool (eqI a b))
  | .neq => some (.bool (!eqI a b))
  | .lss => some (.bool (ltI a b))
  | .leq => some (.bool (leI a b))
  | .gtr => some (.bool (ltI b a))
  | .geq => some (.bool (leI b a))
  | _ => none
theorem intF_ok {P : Program} {op : BinOp} {k : IntKind} {a b : Int} {t : TypeId} {xo yo : Operand} {v : Value} (h : intF k a b op = some v) : pv P (do eqGuard op t xo yo (.int k a) (.int k b); binOp op t (.int k a) (.int k b)) = some v ∧ scalar v = true := by
  cases op <;> simp only [intF, Option.some.injEq, reduceCtorEq] at h <;> subst h <;> refine ⟨?_, rfl⟩ <;> simp [eqGuard, binOp, Op.intArith, Op.intCmp, pv, wrapF_eq, addI_eq, subI_eq, eqI_eq, ltI_eq, leI_eq, bne, Bind.bind, Sem.bind, Pure.pure]
def eqB : List UInt8 → List UInt8 → Bool
  | [], [] => true
  | a :: l, b :: m => (match Nat.beq a.toNat b.toNat with
    | true => eqB l m
    | false => false)
  | _, _ => false
theorem eqB_eq (l m : List UInt8) : eqB l m = (l == m) := by
  induction l generalizing m with
  | nil => cases m <;> rfl
  | cons a l ih =>
    cases m with
    | nil => rfl
    | cons b m =>
      simp only [eqB]
      cases h : Nat.beq a.toNat b.toNat with
      | true =>
        have : a = b := UInt8.toNat_inj.1 (Nat.eq_of_beq_eq_true h)
        subst this
        simp only [ih]
        simp
      | false =>
        have : a ≠ b := fun e => by subst e; have := Nat.ne_of_beq_eq_false h; exact this rfl
        simp [this]
def strF (x y : ByteArray) : BinOp → Option Value
  | .eql => some (.bool (eqB x.data.toList y.data.toList))
  | .neq => some (.bool (!eqB x.data.toList y.data.toList))
  | op => astr op x y
theorem strF_eq (x y : ByteArray) (op : BinOp) : strF x y op = astr op x y := by cases op <;> simp only [strF, astr, eqB_eq]
def boolF (a b : Bool) : BinOp → Option Value
  | .eql => some (.bool (match a with | true => b | false => !b))
  | .neq => some (.bool (match a with | true => !b | false => b))
  | _ => none
def scalP (v : Option Value) : Option AV := match v with
  | some v => (match scalar v with | true => some (.sc v) | false => none)
  | none => none
theorem scalP_eq (v : Option Value) : scalP v = v.bind scal := by
  cases v with
  | none => rfl
  | some v => simp only [scalP, Option.bind_some, scal]; cases scalar v <;> rfl
def scF (P : Program) (op : BinOp) (t : TypeId) (xo yo : Operand) (x y : Value) : Option AV :=
  match x with
  | .int k a => (match y with
    | .int k' b => (match sameKind k k' with
      | true => (match intF k a b op with
        | some v => some (.sc v)
        | none => abin P op t xo yo (.sc (.int k a)) (.sc (.int k' b)))
      | false => abin P op t xo yo (.sc (.int k a)) (.sc (.int k' b)))
    | y => abin P op t xo yo (.sc (.int k a)) (.sc y))
  | .string a => (match y with
    | .string b => scalP (strF a b op)
    | y => abin P op t xo yo (.sc (.string a)) (.sc y))
  | x => abin P op t xo yo (.sc x) (.sc y)
def abinF (P : Program) (op : BinOp) (t : TypeId) (xo yo : Operand) (a b : AV) : Option AV :=
  match a with
  | .sc x => (match b with
    | .sc y => scF P op t xo yo x y
    | b => abin P op t xo yo (.sc x) b)
  | a => abin P op t xo yo a b
theorem abinF_eq (P : Program) (op : BinOp) (t : TypeId) (xo yo : Operand) (a b : AV) : abinF P op t xo yo a b = abin P op t xo yo a b := by
  unfold abinF
  cases a with
  | sc x =>
    cases b with
    | sc y =>
      simp only [scF]
      cases x with
      | int k a =>
        cases y with
        | int k' b =>
          simp only
          cases hk : sameKind k k' with
          | false => rfl
          | true =>
            have := sameKind_ok hk
            subst this
            simp only
            cases hf : intF k a b op with
            | none => rfl
            | some v =>
              obtain ⟨h1, h2⟩ := intF_ok (P := P) (t := t) (xo := xo) (yo := yo) hf
              simp [abin, toVal, h1, scal, h2]
        | _ => rfl
      | string a =>
        cases y with
        | string b => simp only [scalP_eq, strF_eq]; rfl
        | _ => rfl
      | _ => rfl
    | _ => rfl
  | _ => rfl
def nthB : List UInt8 → Nat → Option UInt8
  | [], _ => none
  | a :: _, 0 => some a
  | _ :: l, n + 1 => nthB l n
theorem nthB_eq (l : List UInt8) (n : Nat) : nthB l n = l[n]? := by
  induction l generalizing n with
  | nil => simp [nthB]
  | cons a l ih => cases n <;> simp [nthB, ih]
def byteK : Option UInt8 → Option AV
  | some b => some (.sc (.int .u8 (.ofNat b.toNat)))
  | none => none
def aindexF (P : Program) (t : TypeId) (x ix : AV) : Option AV :=
  match x with
  | .sc (.string s) => (match P.underlying t with
    | some .string => (match anat ix with
      | some i => byteK (nthB s.data.toList i)
      | none => none)
    | _ => aindex P t (.sc (.string s)) ix)
  | x => aindex P t x ix
theorem aindexF_eq (P : Program) (t : TypeId) (x ix : AV) : aindexF P t x ix = aindex P t x ix := by
  unfold aindexF
  cases x with
  | sc v =>
    cases v with
    | string s =>
      simp only
      split
      · rename_i hu
        unfold aindex
        rw [hu]
        cases anat ix with
        | none => rfl
        | some i =>
          simp only [nthB_eq]
          cases s.data.toList[i]? <;> rfl
      · rfl
    | _ => rfl
  | _ => rfl
end AI
