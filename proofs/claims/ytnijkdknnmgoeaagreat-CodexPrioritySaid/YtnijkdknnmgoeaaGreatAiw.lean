/- Walking code by hand: what must be shown of a piece of code, step by step. -/
import Derived.Test.YtnijkdknnmgoeaaGreatAid
import Derived.Test.YtnijkdknnmgoeaaGreatAie
import Derived.Laws.StructEq
namespace AI
open Go Go.RowKit

section
variable {P : Program} {G : Glob} {X : Exts} {H : Hook}
/-- from this frame and state the code comes to an end that is as wanted -/
def W (P : Program) (G : Glob) (X : Exts) (H : Hook) (c : Code) (fr : List AV) (s : AS) (Q : AX → List AV → AS → Prop) : Prop := ∃ e fr' s', J P G X H (.code c fr s e fr' s') ∧ Q e fr' s'
def WL (P : Program) (G : Glob) (X : Exts) (H : Hook) (c : Code) (fr : List AV) (s : AS) (Q : AX → List AV → AS → Prop) : Prop := ∃ e fr' s', J P G X H (.loop c fr s e fr' s') ∧ Q e fr' s'
def WO (P : Program) (G : Glob) (X : Exts) (H : Hook) (ops : Array Oper) (l : List Oper) (fr : List AV) (s : AS) (Q : AX → List AV → AS → Prop) : Prop := ∀ k, l = ops.toList.drop k → ∃ e fr' s', J P G X H (.ops ops (List.range' k l.length) fr s e fr' s') ∧ Q e fr' s'
/-- a call comes to an end that is as wanted -/
def WC (P : Program) (G : Glob) (X : Exts) (H : Hook) (f : FuncId) (args : List AV) (s : AS) (Q : CR → AS → Prop) : Prop := ∃ r s', J P G X H (.call f args s r s') ∧ Q r s'
def thenQ (P : Program) (G : Glob) (X : Exts) (H : Hook) (y : Code) (Q : AX → List AV → AS → Prop) : AX → List AV → AS → Prop
  | .normal, fr, s => W P G X H y fr s Q
  | e, fr, s => Q e fr s
def blockQ (id : Nat) (Q : AX → List AV → AS → Prop) : AX → List AV → AS → Prop := fun e fr s => Q (unblock id e) fr s
def loopQ (P : Program) (G : Glob) (X : Exts) (H : Hook) (c : Code) (Q : AX → List AV → AS → Prop) : AX → List AV → AS → Prop
  | .normal, fr, s => WL P G X H c fr s Q
  | e, fr, s => Q e fr s
/-- how a body's end is a call's end -/
def bodyQ (P : Program) (fn : Func) (n : Nat) (Q : CR → AS → Prop) : AX → List AV → AS → Prop
  | .normal, fr, s => ∃ v, aresults P s fn fr = some v ∧ Q (.ret v) (s.cut n)
  | .ret, fr, s => ∃ v, aresults P s fn fr = some v ∧ Q (.ret v) (s.cut n)
  | .pan v, _, s => Q (.pan v) (s.cut n)
  | _, _, _ => False
theorem W.mono {c : Code} {fr : List AV} {s : AS} {Q R : AX → List AV → AS → Prop} (h : W P G X H c fr s Q) (k : ∀ e fr s, Q e fr s → R e fr s) : W P G X H c fr s R := by
  obtain ⟨e, fr', s', h1, h2⟩ := h
  exact ⟨e, fr', s', h1, k _ _ _ h2⟩
theorem WC.mono {f : FuncId} {args : List AV} {s : AS} {Q R : CR → AS → Prop} (h : WC P G X H f args s Q) (k : ∀ r s, Q r s → R r s) : WC P G X H f args s R := by
  obtain ⟨r, s', h1, h2⟩ := h
  exact ⟨r, s', h1, k _ _ h2⟩
theorem W_skip {fr : List AV} {s : AS} {Q : AX → List AV → AS → Prop} (h : Q .normal fr s) : W P G X H .skip fr s Q := ⟨_, _, _, .skip, h⟩
theorem W_exit {id : Nat} {fr : List AV} {s : AS} {Q : AX → List AV → AS → Prop} (h : Q (.exit id) fr s) : W P G X H (.exit id) fr s Q := ⟨_, _, _, .exit, h⟩
theorem W_ret {fr : List AV} {s : AS} {Q : AX → List AV → AS → Prop} (h : Q .ret fr s) : W P G X H .ret fr s Q := ⟨_, _, _, .ret, h⟩
theorem W_seq {x y : Code} {fr : List AV} {s : AS} {Q : AX → List AV → AS → Prop} (h : W P G X H x fr s (thenQ P G X H y Q)) : W P G X H (.seq x y) fr s Q := by
  obtain ⟨e, fr1, s1, h1, h2⟩ := h
  cases e with
  | normal =>
    obtain ⟨e2, fr2, s2, h3, h4⟩ := h2
    exact ⟨e2, fr2, s2, .seq h1 h3, h4⟩
  | exit id => exact ⟨_, _, _, .seqX h1 (by simp), h2⟩
  | ret => exact ⟨_, _, _, .seqX h1 (by simp), h2⟩
  | pan v => exact ⟨_, _, _, .seqX h1 (by simp), h2⟩
theorem W_condT {q : Operand} {x y : Code} {fr : List AV} {s : AS} {Q : AX → List AV → AS → Prop} (hq : aeval G fr q = some (.sc (.bool true))) (h : W P G X H x fr s Q) : W P G X H (.cond q x y) fr s Q := by
  obtain ⟨e, fr1, s1, h1, h2⟩ := h
  exact ⟨e, fr1, s1, .cond hq h1, h2⟩
theorem W_condF {q : Operand} {x y : Code} {fr : List AV} {s : AS} {Q : AX → List AV → AS → Prop} (hq : aeval G fr q = some (.sc (.bool false))) (h : W P G X H y fr s Q) : W P G X H (.cond q x y) fr s Q := by
  obtain ⟨e, fr1, s1, h1, h2⟩ := h
  exact ⟨e, fr1, s1, .cond hq h1, h2⟩
theorem W_block {id : Nat} {c : Code} {fr : List AV} {s : AS} {Q : AX → List AV → AS → Prop} (h : W P G X H c fr s (blockQ id Q)) : W P G X H (.block id c) fr s Q := by
  obtain ⟨e, fr1, s1, h1, h2⟩ := h
  exact ⟨_, fr1, s1, .block h1, h2⟩
theorem W_loop {c : Code} {fr : List AV} {s : AS} {Q : AX → List AV → AS → Prop} (h : WL P G X H c fr s Q) : W P G X H (.loop c) fr s Q := by
  obtain ⟨e, fr1, s1, h1, h2⟩ := h
  exact ⟨_, fr1, s1, .loop h1, h2⟩
theorem WL_step {c : Code} {fr : List AV} {s : AS} {Q : AX → List AV → AS → Prop} (h : W P G X H c fr s (loopQ P G X H c Q)) : WL P G X H c fr s Q := by
  obtain ⟨e, fr1, s1, h1, h2⟩ := h
  cases e with
  | normal =>
    obtain ⟨e2, fr2, s2, h3, h4⟩ := h2
    exact ⟨e2, fr2, s2, .loopN h1 h3, h4⟩
  | exit id => exact ⟨_, _, _, .loopX h1 (by simp), h2⟩
  | ret => exact ⟨_, _, _, .loopX h1 (by simp), h2⟩
  | pan v => exact ⟨_, _, _, .loopX h1 (by simp), h2⟩
theorem W_region {id : Nat} {ops : Array Oper} {fr : List AV} {s : AS} {Q : AX → List AV → AS → Prop} (h : WO P G X H ops ops.toList fr s Q) : W P G X H (.region id ops false) fr s Q := by
  obtain ⟨e, fr1, s1, h1, h2⟩ := h 0 (by simp)
  refine ⟨e, fr1, s1, .region ?_, h2⟩
  rw [Array.length_toList] at h1
  rw [List.range_eq_range']
  exact h1
theorem WO_nil {ops : Array Oper} {fr : List AV} {s : AS} {Q : AX → List AV → AS → Prop} (h : Q .normal fr s) : WO P G X H ops [] fr s Q := fun _ _ => ⟨_, _, _, .opsNil, h⟩
theorem drop_cons {α : Type} {o : α} {l m : List α} {k : Nat} (h : o :: l = m.drop k) : m[k]? = some o ∧ l = m.drop (k + 1) := by
  constructor
  · have := congrArg (fun x => x[0]?) h
    simpa using this.symm
  · have := congrArg List.tail h
    rw [List.tail_drop] at this
    exact this
theorem WO_val {ops : Array Oper} {o : Oper} {l : List Oper} {fr : List AV} {s s1 : AS} {v : AV} {Q : AX → List AV → AS → Prop} (hw : awanted ops fr o = true) (h : aop P G fr s o = some (.val v s1)) (k : WO P G X H ops l (aput fr o.dst v) s1 Q) : WO P G X H ops (o :: l) fr s Q := by
  intro n hn
  obtain ⟨h1, h2⟩ := drop_cons hn
  obtain ⟨e, fr2, s2, h3, h4⟩ := k (n + 1) h2
  refine ⟨e, fr2, s2, ?_, h4⟩
  rw [List.length_cons, List.range'_succ]
  exact .opsCons (by rw [← Array.getElem?_toList]; exact h1) (.opVal hw h) h3
theorem WO_skip {ops : Array Oper} {o : Oper} {l : List Oper} {fr : List AV} {s : AS} {Q : AX → List AV → AS → Prop} (hw : awanted ops fr o = false) (k : WO P G X H ops l (aput fr o.dst (.sc undef)) s Q) : WO P G X H ops (o :: l) fr s Q := by
  intro n hn
  obtain ⟨h1, h2⟩ := drop_cons hn
  obtain ⟨e, fr2, s2, h3, h4⟩ := k (n + 1) h2
  refine ⟨e, fr2, s2, ?_, h4⟩
  rw [List.length_cons, List.range'_succ]
  exact .opsCons (by rw [← Array.getElem?_toList]; exact h1) (.opSkip hw) h3
def callQ (P : Program) (G : Glob) (X : Exts) (H : Hook) (ops : Array Oper) (dst : Option Tmp) (l : List Oper) (fr : List AV) (Q : AX → List AV → AS → Prop) : CR → AS → Prop
  | .ret v, s1 => WO P G X H ops l (aput fr dst v) s1 Q
  | .pan v, s1 => Q (.pan v) fr s1
theorem WO_call {ops : Array Oper} {o : Oper} {l : List Oper} {fr : List AV} {s : AS} {f : FuncId} {args : List AV} {Q : AX → List AV → AS → Prop} (hw : awanted ops fr o = true) (h : aop P G fr s o = some (.ent f args)) (k : WC P G X H f args s (callQ P G X H ops o.dst l fr Q)) : WO P G X H ops (o :: l) fr s Q := by
  intro n hn
  obtain ⟨h1, h2⟩ := drop_cons hn
  obtain ⟨r, s1, h5, h6⟩ := k
  rw [List.length_cons, List.range'_succ]
  cases r with
  | ret v =>
    obtain ⟨e, fr2, s2, h3, h4⟩ := h6 (n + 1) h2
    exact ⟨e, fr2, s2, .opsCons (by rw [← Array.getElem?_toList]; exact h1) (.opCall hw h h5) h3, h4⟩
  | pan v => exact ⟨_, _, _, .opsPan (by rw [← Array.getElem?_toList]; exact h1) (.opCall hw h h5), h6⟩
theorem WO_pan {ops : Array Oper} {o : Oper} {l : List Oper} {fr : List AV} {s : AS} {v : AV} {Q : AX → List AV → AS → Prop} (hw : awanted ops fr o = true) (h : aop P G fr s o = some (.pan v)) (k : Q (.pan v) fr s) : WO P G X H ops (o :: l) fr s Q := by
  intro n hn
  obtain ⟨h1, h2⟩ := drop_cons hn
  rw [List.length_cons, List.range'_succ]
  exact ⟨_, _, _, .opsPan (by rw [← Array.getElem?_toList]; exact h1) (.opPan hw h), k⟩
theorem WC_body {f : FuncId} {fn : Func} {c : Code} {args : List AV} {s : AS} {Q : CR → AS → Prop} (hf : P.funcs[f]? = some fn) (hb : fn.body = some c) (h : W P G X H c (args ++ List.replicate (fn.ntmps - args.length) (.sc undef)) s (bodyQ P fn s.nx Q)) : WC P G X H f args s Q := by
  obtain ⟨e, fr1, s1, h1, h2⟩ := h
  cases e with
  | normal => obtain ⟨v, h3, h4⟩ := h2; exact ⟨_, _, .body hf hb h1 (.inl rfl) h3 (.inl rfl), h4⟩
  | ret => obtain ⟨v, h3, h4⟩ := h2; exact ⟨_, _, .body hf hb h1 (.inr rfl) h3 (.inl rfl), h4⟩
  | pan v => exact ⟨_, _, .bodyP hf hb h1, h2⟩
  | exit id => exact h2.elim
end
end AI
/- Forgetting: boxes and growing slices that nobody asks for any more. -/
namespace AI
open Go Go.RowKit

mutual
/-- names no box from n on and no growing slice from m on -/
def under (n m : Nat) : AV → Bool
  | .sc _ => true
  | .agg cs => underL n m cs
  | .tup cs => underL n m cs
  | .sl o _ cs => (match o with | .row r _ => decide (r < m) | _ => true) && underL n m cs
  | .msl id _ _ => decide (id < n)
  | .el cs => underL n m cs
  | .ptr id _ => decide (id < n)
  | .fn _ a b => underL n m a && underL n m b
  | .ifc _ v => under n m v
  | .mp id => decide (id < n)
  | .any => true
def underL (n m : Nat) : List AV → Bool
  | [] => true
  | a :: l => under n m a && underL n m l
end
mutual
theorem under_plain (n m : Nat) : ∀ {a : AV}, plain a = true → under n m a = true
  | .sc _, _ => rfl
  | .agg cs, h => by simp only [plain] at h; simp only [under]; exact under_plainL n m h
  | .tup cs, h => by simp only [plain] at h; simp only [under]; exact under_plainL n m h
  | .sl o k cs, h => by
    simp only [plain, Bool.and_eq_true] at h
    simp only [under, Bool.and_eq_true]
    refine ⟨?_, under_plainL n m h.2⟩
    cases o with
    | row r sz => cases h.1
    | _ => rfl
  | .msl _ _ _, h => by cases h
  | .el cs, h => by simp only [plain] at h; simp only [under]; exact under_plainL n m h
  | .ptr _ _, h => by cases h
  | .fn _ a b, h => by
    simp only [plain, Bool.and_eq_true] at h
    simp only [under, Bool.and_eq_true]
    exact ⟨under_plainL n m h.1, under_plainL n m h.2⟩
  | .ifc _ v, h => by simp only [plain] at h; simp only [under]; exact under_plain n m h
  | .mp _, h => by cases h
  | .any, _ => rfl
theorem under_plainL (n m : Nat) : ∀ {l : List AV}, plainL l = true → underL n m l = true
  | [], _ => rfl
  | a :: l, h => by
    simp only [plainL, Bool.and_eq_true] at h
    simp only [underL, Bool.and_eq_true]
    exact ⟨under_plain n m h.1, under_plainL n m h.2⟩
end
/-- the context with the first n boxes and the first m growing slices -/
def Cx.upto (c : Cx) (n m : Nat) : Cx := ⟨c.base, c.phi.take n, c.rows.take m, c.bad⟩
theorem take_get {α : Type} {l : List α} {n i : Nat} {x : α} (h : (l.take n)[i]? = some x) : l[i]? = some x ∧ i < n := by
  rw [List.getElem?_take] at h
  split at h
  · rename_i hi; exact ⟨h, hi⟩
  · cases h
theorem take_of {α : Type} {l : List α} {n i : Nat} {x : α} (h : l[i]? = some x) (hi : i < n) : (l.take n)[i]? = some x := by
  rw [List.getElem?_take, if_pos hi]; exact h
section
variable {c : Cx} {w : World} {n m : Nat}
theorem shy_upto {g i : Nat} (h : (c.upto n m).shy g i) : c.shy g i := by
  rcases h with h | ⟨r, lo, hi, hr, h⟩ | h
  · exact .inl (List.mem_of_mem_take h)
  · exact .inr (.inl ⟨r, lo, hi, (take_get hr).1, h⟩)
  · exact .inr (.inr h)
theorem vis_upto {g i : Nat} {v : Value} (h : Vis c w g i v) : Vis (c.upto n m) w g i v := ⟨h.1, fun hs => h.2.1 (shy_upto hs), h.2.2⟩
mutual
theorem Rp.upto : ∀ {a : AV} {v : Value}, under n m a = true → Rp c w a v → Rp (c.upto n m) w a v := by
  intro a v hp h
  cases h with
  | sc h1 => exact .sc h1
  | agg h1 => exact .agg (RpL.upto hp h1)
  | tup h1 => exact .tup (RpL.upto hp h1)
  | sl0 h1 => exact .sl0 h1
  | @sl1 own k cap g o cs hn h1 ho =>
    simp only [AI.under, Bool.and_eq_true] at hp
    refine .sl1 hn (CellsAt.upto hp.2 h1) ?_
    cases own with
    | full => exact ho
    | lost => trivial
    | row r sz =>
      have hr : r < m := of_decide_eq_true hp.1
      refine ⟨ho.1, ho.2.1, ?_, fun g' lo hi e => ho.2.2.2 g' lo hi (take_get e).1⟩
      have := ho.2.2.1
      simp only [Cx.upto, List.length_take]
      omega
  | msl hn h1 => exact .msl hn (take_of h1 (of_decide_eq_true hp))
  | el h1 => exact .el (CellsAt.upto hp h1)
  | ptr h1 => exact .ptr (take_of h1 (of_decide_eq_true hp))
  | fn h1 h2 =>
    simp only [AI.under, Bool.and_eq_true] at hp
    exact .fn (RpL.upto hp.1 h1) (RpL.upto hp.2 h2)
  | ifc h1 => exact .ifc (Rp.upto hp h1)
  | mp h1 => exact .mp (take_of h1 (of_decide_eq_true hp))
  | any h1 => exact .any h1
theorem RpL.upto : ∀ {a : List AV} {v : List Value}, underL n m a = true → RpL c w a v → RpL (c.upto n m) w a v := by
  intro a v hp h
  cases h with
  | nil => exact .nil
  | cons h1 t =>
    simp only [AI.underL, Bool.and_eq_true] at hp
    exact .cons (Rp.upto hp.1 h1) (RpL.upto hp.2 t)
theorem CellsAt.upto : ∀ {a : List AV} {g o : Nat}, underL n m a = true → CellsAt c w g o a → CellsAt (c.upto n m) w g o a := by
  intro a g o hp h
  cases h with
  | nil => exact .nil
  | cons hvv h1 t =>
    simp only [AI.underL, Bool.and_eq_true] at hp
    exact .cons (vis_upto hvv) (Rp.upto hp.1 h1) (CellsAt.upto hp.2 t)
end
end
/-- may it be forgotten? -/
def canDrop : AV → Bool
  | .sc v => anyable v
  | .agg _ => false
  | _ => true
theorem canDrop_ok {c : Cx} {w : World} {a : AV} {v : Value} (h : Rp c w a v) (hd : canDrop a = true) : anyable v = true := by
  cases h <;> first | rfl | exact hd | assumption | (cases hd; done)
/-- a slice that is no longer grown -/
def ungrow : AV → AV
  | .sl _ n cs => .sl .lost n cs
  | a => a
inductive Fg (n m : Nat) : List AV → List AV → Prop where
  | nil : Fg n m [] []
  | keep {a : AV} {l k : List AV} (h : under n m a = true) (t : Fg n m l k) : Fg n m (a :: l) (a :: k)
  | drop {a : AV} {l k : List AV} (h : canDrop a = true) (t : Fg n m l k) : Fg n m (a :: l) (.any :: k)
  | lost {o : Own} {j : Nat} {cs l k : List AV} (h : underL n m cs = true) (t : Fg n m l k) : Fg n m (.sl o j cs :: l) (.sl .lost j cs :: k)
theorem Fg.ok {n m : Nat} {l k : List AV} (h : Fg n m l k) {c : Cx} {w : World} {vs : List Value} (hr : RpL c w l vs) : RpL (c.upto n m) w k vs := by
  induction h generalizing vs with
  | nil => cases hr; exact .nil
  | keep h _ ih => cases hr with | cons h1 t => exact .cons (h1.upto h) (ih t)
  | drop h _ ih => cases hr with | cons h1 t => exact .cons (.any (canDrop_ok h1 h)) (ih t)
  | @lost o j cs l k h _ ih =>
    cases hr with
    | cons h1 t =>
      refine .cons ?_ (ih t)
      cases h1 with
      | sl0 _ => exact .sl0 trivial
      | sl1 hn hc ho => exact .sl1 hn (hc.upto h) trivial
def underB (n m : Nat) : ABlk → Bool
  | .cells cs => underL n m cs
  | .map _ _ => false
theorem BlkOk.upto {c : Cx} {w : World} {n m : Nat} {b : ABlk} {o : Obj} (hb : underB n m b = true) (h : BlkOk c w b o) : BlkOk (c.upto n m) w b o := by
  cases h with
  | cells h1 => exact .cells (h1.upto hb)
  | map h1 => cases hb
/-- the boxes from n on are forgotten, the growing slices from m on too -/
theorem forget {G : Glob} (hG : ∀ g cs, G g = some cs → plainL cs = true) {s s' s2 : AS} {fr' fr2 : List AV} (hn : s2.nx = s.nx) (hr : s2.nr = s.nr)
    (hd : Desc s2.h s2.nx) (hbox : ∀ id b, look id s2.h = some b → look id s'.h = some b ∧ underB s.nx s.nr b = true) (hF : ∀ r, memN r s2.F = true → memN r s'.F = true ∧ r < s.nr)
    (hf : Fg s.nx s.nr fr' fr2) (cx : Cx) (w : World) (c' : Cx) (w' : World) (vs : List Value) (hx : Ext cx w c' w') (hs : St G cx w s) (hs' : St G c' w' s') (hfr : RpL c' w' fr' vs) :
    ∃ c2, Ext cx w c2 w' ∧ St G c2 w' s2 ∧ RpL c2 w' fr2 vs := by
  have hphi : c'.phi.take s.nx = cx.phi := by
    obtain ⟨t, ht⟩ := hx.phi
    rw [← ht, hs.len, List.take_left]
  have hrl : (c'.rows.take s.nr).length = cx.rows.length := by
    have := hx.rlen
    rw [List.length_take, hs.rlen]; omega
  refine ⟨c'.upto s.nx s.nr, ⟨?_, ?_, fun r x hr' h => ?_, fun g i v hv => vis_upto (hx.vis g i v hv), hx.below, hx.base, hx.bad, fun g hg => hx.pnew g (List.mem_of_mem_take hg), fun r g lo hi h => hx.rnew r g lo hi (take_get h).1, hx.keep⟩, ?_, hf.ok hfr⟩
  · show cx.phi <+: c'.phi.take s.nx
    rw [hphi]
    exact List.prefix_refl _
  · show cx.rows.length ≤ (c'.rows.take s.nr).length
    omega
  · exact hx.rows r x hr' (take_get h).1
  · refine ⟨?_, hd, fun i j g h1 h2 => hs'.nodup i j g (take_get h1).1 (take_get h2).1, fun g hg => hs'.low g (List.mem_of_mem_take hg), fun id g b h1 h2 => ?_, ?_, fun r g lo hi h => ?_, fun r h => ?_, fun g hg => hs'.plow g (List.mem_of_mem_take hg), hs'.blow, fun r r' g lo hi lo' hi' h h' => hs'.rdist r r' g lo hi lo' hi' (take_get h).1 (take_get h').1, fun g cs hg => (hs'.glob g cs hg).upto (under_plainL _ _ (hG g cs hg)), hs'.bsz⟩
    · show s2.nx = (c'.phi.take s.nx).length
      rw [hphi, hn, hs.len]
    · obtain ⟨h3, h4⟩ := hbox id b h2
      obtain ⟨o, ho, hb⟩ := hs'.box id g b (take_get h1).1 h3
      exact ⟨o, ho, hb.upto h4⟩
    · show s2.nr = (c'.rows.take s.nr).length
      rw [hrl, hr, hs.rlen]
    · obtain ⟨a1, a2, a3, a4⟩ := hs'.row r g lo hi (take_get h).1
      exact ⟨a1, a2, fun hm => a3 (List.mem_of_mem_take hm), a4⟩
    · obtain ⟨h1, h2⟩ := hF r h
      obtain ⟨x, hx'⟩ := hs'.rfree r h1
      exact ⟨x, take_of hx' h2⟩
/-- back to the empty state -/
theorem forget0 {G : Glob} (hG : ∀ g cs, G g = some cs → plainL cs = true) {n m : Nat} {s' : AS} {fr' fr2 : List AV} (hf : Fg n m fr' fr2) (cx : Cx) (w : World) (c' : Cx) (w' : World) (vs : List Value) (hx : Ext cx w c' w') (hs : St G cx w ⟨[], n, [], m⟩) (hs' : St G c' w' s') (hfr : RpL c' w' fr' vs) :
    ∃ c2, Ext cx w c2 w' ∧ St G c2 w' ⟨[], n, [], m⟩ ∧ RpL c2 w' fr2 vs :=
  forget hG (s := ⟨[], n, [], m⟩) (s2 := ⟨[], n, [], m⟩) rfl rfl trivial (fun _ _ h => by cases h) (fun _ h => by cases h) hf cx w c' w' vs hx hs hs' hfr
end AI
/- Contracts of calls without side effects; slices of rows; numbers: for walks with unknown values. -/
namespace AI
open Go Go.RowKit

abbrev XS (P : Program) (G : Glob) : Exts := fun f args s r s' => Sound P G (.call f args s r s')
def H0 : Hook := fun _ _ => none
theorem givenS {P : Program} {G : Glob} (h : P.follows .mixedOrders = true) : Given P G (XS P G) H0 := ⟨h, fun _ _ _ _ _ h => h, fun _ _ _ _ _ h => by cases h⟩
/-- the call gives v in every state and leaves the state -/
def Pure (P : Program) (G : Glob) (f : FuncId) (args : List AV) (v : AV) : Prop := ∀ s, Sound P G (.call f args s (.ret v) s)
theorem pure_of {P : Program} {G : Glob} (hm : P.follows .mixedOrders = true) (hG : ∀ g cs, G g = some cs → plainL cs = true) {f : FuncId} {args : List AV} {v : AV} (h : WC P G (XS P G) H0 f args s0 (fun r _ => r = .ret v)) (hp : plainL args = true) (hb : boxless v = true) (hl : lose v = v) : Pure P G f args v := by
  obtain ⟨r, s', hj, rfl⟩ := h
  intro s
  have := closed_call hG (sound (givenS hm) hj) hp hb s
  rwa [hl] at this
section
variable {P : Program} {G : Glob}
theorem WC_pure {f : FuncId} {args : List AV} {s : AS} {v : AV} {Q : CR → AS → Prop} (h : Pure P G f args v) (k : Q (.ret v) s) : WC P G (XS P G) H0 f args s Q := ⟨_, _, .ext (h s), k⟩
theorem WC_sound {f : FuncId} {args : List AV} {s s' : AS} {r : CR} {Q : CR → AS → Prop} (h : Sound P G (.call f args s r s')) (k : Q r s') : WC P G (XS P G) H0 f args s Q := ⟨_, _, .ext h, k⟩
/-- a call that is known, and its operation -/
theorem WO_pure {ops : Array Oper} {o : Oper} {l : List Oper} {fr : List AV} {s : AS} {f : FuncId} {args : List AV} {v : AV} {Q : AX → List AV → AS → Prop} (hw : awanted ops fr o = true) (h : aop P G fr s o = some (.ent f args)) (hp : Pure P G f args v) (k : WO P G (XS P G) H0 ops l (aput fr o.dst v) s Q) : WO P G (XS P G) H0 ops (o :: l) fr s Q :=
  WO_call hw h (WC_pure hp k)
end
/-- the cells of a list of rows -/
def rows {α : Type} (f : α → List AV) (l : List α) : List AV := l.flatMap f
theorem rows_drop {α : Type} {f : α → List AV} {k : Nat} (hf : ∀ x, (f x).length = k) {l : List α} {i : Nat} {x : α} (h : l[i]? = some x) : (rows f l).drop (i * k) = f x ++ rows f (l.drop (i + 1)) := by
  induction l generalizing i with
  | nil => simp at h
  | cons y l ih =>
    cases i with
    | zero => simp at h; subst h; simp [rows]
    | succ i =>
      have := ih (i := i) (by simpa using h)
      have e : rows f (y :: l) = f y ++ rows f l := by simp [rows]
      rw [e, List.drop_append, hf y, show (i + 1) * k - k = i * k by rw [Nat.add_mul]; omega, List.drop_eq_nil_of_le (by rw [hf y, Nat.add_mul]; omega), List.nil_append, this]
      simp
theorem rows_len {α : Type} {f : α → List AV} {k : Nat} (hf : ∀ x, (f x).length = k) (l : List α) : (rows f l).length = l.length * k := by
  induction l with
  | nil => simp [rows]
  | cons y l ih =>
    have e : rows f (y :: l) = f y ++ rows f l := by simp [rows]
    rw [e, List.length_append, hf y, ih, List.length_cons, Nat.add_mul]; omega
theorem rows_append {α : Type} (f : α → List AV) (l m : List α) : rows f (l ++ m) = rows f l ++ rows f m := by simp [rows]
theorem rows_cons {α : Type} (f : α → List AV) (x : α) (m : List α) : rows f (x :: m) = f x ++ rows f m := by simp [rows]
theorem rows_plain {α : Type} {f : α → List AV} {l : List α} (h : ∀ x ∈ l, plainL (f x) = true) : plainL (rows f l) = true := by
  have app : ∀ a b : List AV, plainL a = true → plainL b = true → plainL (a ++ b) = true := by
    intro a b ha hb
    induction a with
    | nil => exact hb
    | cons x a ih =>
      simp only [plainL, Bool.and_eq_true, List.cons_append] at ha ⊢
      exact ⟨ha.1, ih ha.2⟩
  induction l with
  | nil => rfl
  | cons y l ih => rw [rows_cons]; exact app _ _ (h y List.mem_cons_self) (ih fun x hx => h x (List.mem_cons_of_mem _ hx))
theorem index_rows {P : Program} {α : Type} {f : α → List AV} {k : Nat} {t elem : TypeId} {e : TypeInfo} (hu : P.underlying t = some (.slice elem)) (he : P.info? elem = some e) (hk : e.size = k) (hf : ∀ x, (f x).length = k) {own : Own} {l : List α} {i : Nat} {x : α} (h : l[i]? = some x) :
    aindexAt P t (.sl own l.length (rows f l)) (.sc (.int .i64 (i : Int))) = some (.el (f x ++ rows f (l.drop (i + 1)))) := by
  have hi := (List.getElem?_eq_some_iff.1 h).1
  have hn : anat (.sc (.int .i64 (i : Int))) = some i := by
    unfold anat
    simp
  unfold aindexAt
  rw [hu, hn]
  simp only [he, hk, if_pos hi, rows_drop hf h]
theorem wrap_nat {i : Nat} (h : i ≤ 9223372036854775807) : IntKind.i64.wrap (i : Int) = (i : Int) := by
  refine IntWalk.i64_in _ ?_
  omega
theorem ltI_nat (a b : Nat) : decide ((a : Int) < (b : Int)) = decide (a < b) := by simp
end AI
/- One operation over unknown values; runs of code without loops over unknown values; what is decided and what is called is told by hints. -/
namespace AI
open Go Go.RowKit

inductive Hn where
  | k
  | b (b : Bool)
  | i (z : Int)
  | w (v : AV)
  | a (v : AV) (s : AS)
inductive Cd where
  | eqb (B b : Bool)
  | eqi (X z : Int)
  | idx (t : TypeId) (a b v : AV)
  | bin (op : BinOp) (t : TypeId) (x y : Operand) (a b v : AV)
  | call (f : FuncId) (args : List AV) (s : AS) (v : AV)
  | app (s : AS) (t tx : TypeId) (a b v : AV) (s1 : AS)
def Cd.ok (P : Program) (G : Glob) : Cd → Prop
  | .eqb B b => B = b
  | .eqi X z => X = z
  | .idx t a b v => aindexAt P t a b = some v
  | .bin op t x y a b v => abin P op t x y a b = some v
  | .call f args s v => Sound P G (.call f args s (.ret v) s)
  | .app s t tx a b v s1 => aappend P s t tx a b = some (v, s1)
/-- all the conditions -/
def Cds (P : Program) (G : Glob) : List Cd → Prop
  | [] => True
  | c :: l => c.ok P G ∧ Cds P G l
theorem Cds.app {P : Program} {G : Glob} {l m : List Cd} (h : Cds P G (l ++ m)) : Cds P G l ∧ Cds P G m := by
  induction l with
  | nil => exact ⟨trivial, h⟩
  | cons c l ih => exact ⟨⟨h.1, (ih h.2).1⟩, (ih h.2).2⟩
abbrev HO := Option (AV × AS × List Hn × List Cd)
def hPlain (s1 : Option AR) (hs : List Hn) : HO := match s1 with
  | some (.val v s) => some (v, s, hs, [])
  | _ => none
def hBin (P : Program) (op : BinOp) (t : TypeId) (x y : Operand) (a b : AV) (s : AS) : List Hn → HO
  | .k :: hs => (match abinF P op t x y a b with
    | some v => some (v, s, hs, [])
    | none => none)
  | .b c :: hs => (match abinF P op t x y a b with
    | some (.sc (.bool B)) => some (.sc (.bool c), s, hs, [.eqb B c])
    | _ => none)
  | .i z :: hs => (match abinF P op t x y a b with
    | some (.sc (.int k X)) => some (.sc (.int k z), s, hs, [.eqi X z])
    | _ => none)
  | .w v :: hs => some (v, s, hs, [.bin op t x y a b v])
  | _ => none
def hIdx (P : Program) (t : TypeId) (a b : AV) (s : AS) : List Hn → HO
  | .k :: hs => (match aindexAt P t a b with
    | some v => some (v, s, hs, [])
    | none => none)
  | .w v :: hs => some (v, s, hs, [.idx t a b v])
  | _ => none
def hCall (s : AS) (r : Option AR) : List Hn → HO
  | .w v :: hs => (match r with
    | some (.ent f args) => some (v, s, hs, [.call f args s v])
    | _ => none)
  | _ => none
def hApp (s : AS) (t tx : TypeId) (a b : AV) : List Hn → HO
  | .a v s1 :: hs => some (v, s1, hs, [.app s t tx a b v s1])
  | _ => none
def hDo (P : Program) (G : Glob) (fr : List AV) (s : AS) (o : Oper) (hs : List Hn) : HO :=
  match o.op with
  | .binOp op t x y _ => (match aevalF G fr x with
    | some a => (match aevalF G fr y with
      | some b => hBin P op t x y a b s hs
      | none => none)
    | none => none)
  | .indexAddr t x i => (match aevalF G fr x with
    | some a => (match aevalF G fr i with
      | some b => hIdx P t a b s hs
      | none => none)
    | none => none)
  | .call cl => (match cl.callee with
    | .value _ => hCall s (aopF P G fr s o) hs
    | .builtin .append => (match cl.args.toList, cl.argTypes.toList with
      | [x, y], [t, tx] => (match aevalF G fr x with
        | some a => (match aevalF G fr y with
          | some b => hApp s t tx a b hs
          | none => none)
        | none => none)
      | _, _ => none)
    | _ => hPlain (aopF P G fr s o) hs)
  | _ => hPlain (aopF P G fr s o) hs
def hOp (P : Program) (G : Glob) (ops : Array Oper) (fr : List AV) (s : AS) (o : Oper) (hs : List Hn) : HO :=
  match awanted ops fr o with
  | true => hDo P G fr s o hs
  | false => some (.sc undef, s, hs, [])
section
variable {P : Program} {G : Glob} {ops : Array Oper}
theorem hPlain_ok {r : Option AR} {hs hs' : List Hn} {v : AV} {s : AS} {cd : List Cd} (h : hPlain r hs = some (v, s, hs', cd)) : r = some (.val v s) := by
  unfold hPlain at h
  split at h
  · cases h; rfl
  · cases h
theorem hDo_ok {fr : List AV} {s s1 : AS} {o : Oper} {hs hs' : List Hn} {v : AV} {cd : List Cd} (hw : awanted ops fr o = true) (h : hDo P G fr s o hs = some (v, s1, hs', cd)) (hc : Cds P G cd) : J P G (XS P G) H0 (.op ops o fr s (.ret v) s1) := by
  have plainC : hPlain (aopF P G fr s o) hs = some (v, s1, hs', cd) → J P G (XS P G) H0 (.op ops o fr s (.ret v) s1) := fun h => by
    have := hPlain_ok h
    rw [aopF_eq] at this
    exact .opVal hw this
  unfold hDo at h
  split at h
  · rename_i op t x y z ho
    rw [aevalF_eq, aevalF_eq] at h
    split at h
    · rename_i a ha
      split at h
      · rename_i b hb
        have fin : ∀ v', abin P op t x y a b = some v' → s1 = s → v = v' → J P G (XS P G) H0 (.op ops o fr s (.ret v) s1) := by
          intro v' h1 h2 h3
          subst h2 h3
          refine .opVal hw ?_
          unfold aop
          rw [ho]
          simp only [ha, hb, h1, Option.map_some]
        unfold hBin at h
        rw [abinF_eq] at h
        split at h
        · split at h
          · rename_i h1; cases h; exact fin _ h1 rfl rfl
          · cases h
        · split at h
          · rename_i h1; cases h
            have e : _ = _ := hc.1
            subst e
            exact fin _ h1 rfl rfl
          · cases h
        · split at h
          · rename_i h1; cases h
            have e : _ = _ := hc.1
            subst e
            exact fin _ h1 rfl rfl
          · cases h
        · cases h; exact fin _ hc.1 rfl rfl
        · cases h
      · cases h
    · cases h
  · rename_i t x i ho
    rw [aevalF_eq, aevalF_eq] at h
    split at h
    · rename_i a ha
      split at h
      · rename_i b hb
        have fin : ∀ v', aindexAt P t a b = some v' → s1 = s → v = v' → J P G (XS P G) H0 (.op ops o fr s (.ret v) s1) := by
          intro v' h1 h2 h3
          subst h2 h3
          refine .opVal hw ?_
          unfold aop
          rw [ho]
          simp only [ha, hb, h1, Option.map_some]
        unfold hIdx at h
        split at h
        · split at h
          · rename_i h1; cases h; exact fin _ h1 rfl rfl
          · cases h
        · cases h; exact fin _ hc.1 rfl rfl
        · cases h
      · cases h
    · cases h
  · rename_i cl ho
    split at h
    · unfold hCall at h
      split at h
      · split at h
        · rename_i h1
          cases h
          rw [aopF_eq] at h1
          exact .opCall hw h1 (.ext hc.1)
        · cases h
      · cases h
    · rename_i hcl
      split at h
      · rename_i x y t tx hxs hts
        rw [aevalF_eq, aevalF_eq] at h
        split at h
        · rename_i a ha
          split at h
          · rename_i b hb
            unfold hApp at h
            split at h
            · cases h
              refine .opVal hw ?_
              have h1 : aappend P s t tx a b = some (v, s1) := hc.1
              unfold aop
              rw [ho]
              simp only [acall, hcl, hxs, hts, ha, hb, h1, Option.map_some]
            · cases h
          · cases h
        · cases h
      · cases h
    · exact plainC h
  · exact plainC h
theorem hOp_ok {fr : List AV} {s s1 : AS} {o : Oper} {hs hs' : List Hn} {v : AV} {cd : List Cd} (h : hOp P G ops fr s o hs = some (v, s1, hs', cd)) (hc : Cds P G cd) : J P G (XS P G) H0 (.op ops o fr s (.ret v) s1) := by
  unfold hOp at h
  split at h
  · rename_i hw; exact hDo_ok hw h hc
  · rename_i hw; cases h; exact .opSkip hw
end
end AI
/- Regions that draw their order, make boxes and fill them: walks over unknown values. -/
namespace AI
open Go Go.RowKit

abbrev HT := Option (List Hn × List Cd × List (List AV × AS × AV) × List AV × AS)
def hTrK (cd : List Cd) (x : List AV × AS × AV) : HT → HT
  | some (hs, cd', t, fr, s) => some (hs, cd ++ cd', x :: t, fr, s)
  | none => none
def hTr (P : Program) (G : Glob) (ops : Array Oper) : List Oper → Nat → List Hn → List AV → AS → HT
  | [], _, hs, fr, s => some (hs, [], [], fr, s)
  | o :: l, q, hs, fr, s => (match isAlloc o.op with
    | true => hTrK [] (fr, s, allocV ops fr o q) (hTr P G ops l (q + 1) hs (aput fr o.dst (allocV ops fr o q)) s)
    | false => (match hOp P G ops fr s o hs with
      | some (v, s1, hs1, cd) => hTrK cd (fr, s, v) (hTr P G ops l q hs1 (aput fr o.dst v) s1)
      | none => none))
def farV (q0 : Nat) : Option AV → Bool
  | some (.el _) => true
  | some (.ptr id _) => Nat.blt id q0
  | _ => false
def newV (q0 : Nat) : Option AV → Bool
  | some (.ptr id _) => Nat.ble q0 id
  | _ => false
def slV : Option AV → Bool
  | some (.sl _ _ _) => true
  | some (.sc (.string _)) => true
  | _ => false
/-- the operation reads nothing that the region's stores write, and writes nothing old -/
def indep (G : Glob) (q0 : Nat) (fr : List AV) (o : Oper) : Bool := match o.op with
  | .load _ a => farV q0 (aevalF G fr a)
  | .lookup .. => false
  | .store _ a _ => newV q0 (aevalF G fr a)
  | .call cl => (match cl.callee with
    | .value _ => true
    | .builtin .len => (match cl.args.toList with
      | [x] => slV (aevalF G fr x)
      | _ => false)
    | _ => quiet o.op)
  | .alloc _ => true
  | op => quiet op
def indepL (G : Glob) (ops : Array Oper) (q0 : Nat) : List Oper → List (List AV × AS × AV) → Bool
  | o :: os, t :: ts => (match awanted ops t.1 o with
    | false => indepL G ops q0 os ts
    | true => (match indep G q0 t.1 o with
      | true => indepL G ops q0 os ts
      | false => false))
  | _, _ => true
def Far (q0 : Nat) (s s' : AS) : Prop := ∀ id, id < q0 → s'.get id = s.get id
theorem look_upd_ne {id id' : Nat} {b : ABlk} (h : id' ≠ id) : ∀ (l : List (Nat × ABlk)), look id' (upd id b l) = look id' l
  | [] => rfl
  | e :: l => by
    simp only [upd]
    split
    · rename_i hb
      have hb := beq_true hb
      simp only [look]
      have h1 : Nat.beq id id' = false := by cases hq : Nat.beq id id' with
        | true => exact absurd (beq_true hq).symm h
        | false => rfl
      rw [hb, h1]
    · simp only [look, look_upd_ne h l]
section
variable {P : Program} {G : Glob} {ops : Array Oper}
theorem hOp_far {q0 : Nat} {fr : List AV} {s s1 : AS} {o : Oper} {hs hs' : List Hn} {v : AV} {cd : List Cd} (h : hOp P G ops fr s o hs = some (v, s1, hs', cd)) (hi : awanted ops fr o = true → indep G q0 fr o = true) (hc : Cds P G cd) (ha : isAlloc o.op = false) : Far q0 s s1 := by
  intro id hid
  have hj := hOp_ok h hc
  cases hq : quiet o.op with
  | true => rw [(quiet_inv hq hj).1]
  | false =>
    unfold hOp at h
    split at h
    · rename_i hw
      have hi := hi hw
      unfold indep at hi
      split at hi
      · rename_i t a ho; rw [ho] at hq; cases hq
      · cases hi
      · rename_i t a x ho
        unfold hDo at h
        rw [ho] at h
        simp only at h
        have h1 := hPlain_ok h
        rw [aopF_eq] at h1
        unfold aop at h1
        rw [ho] at h1
        simp only at h1
        rw [aevalF_eq] at hi
        split at h1
        · rename_i a' x' ha' hx'
          rw [ha'] at hi
          obtain ⟨s', hst, he⟩ := map_some h1
          injection he with he1 he2
          subst he2
          unfold newV at hi
          split at hi
          · rename_i id' off heq
            cases heq
            unfold astore at hst
            split at hst
            · rename_i i id2 off2 hi2 heq2
              cases heq2
              split at hst
              · split at hst
                · cases hst
                  have := Nat.le_of_ble_eq_true hi
                  exact look_upd_ne (by omega) _
                · cases hst
              · cases hst
            · cases hst
          · cases hi
        · cases h1
      · rename_i cl ho
        split at hi
        · rename_i f hcl
          unfold hDo at h
          rw [ho] at h
          simp only [hcl] at h
          unfold hCall at h
          split at h
          · split at h
            · cases h; rfl
            · cases h
          · cases h
        · rename_i hcl
          rw [ho] at hq
          simp [quiet, hcl] at hq
        · rw [ho] at hq; rw [ho, hq] at hi; cases hi
      · rename_i e ho; rw [ho] at ha; cases ha
      · rw [hq] at hi; cases hi
    · cases h; rfl
theorem Far.refl (q0 : Nat) (s : AS) : Far q0 s s := fun _ _ => rfl
theorem Far.trans {q0 : Nat} {a b c : AS} (h : Far q0 a b) (k : Far q0 b c) : Far q0 a c := fun id hid => (k id hid).trans (h id hid)
theorem hTr_ok {q0 : Nat} {l : List Oper} {q : Nat} {hs hs' : List Hn} {fr fr' : List AV} {s s' : AS} {cd : List Cd} {t : List (List AV × AS × AV)} (h : hTr P G ops l q hs fr s = some (hs', cd, t, fr', s')) (hc : Cds P G cd) (hi : indepL G ops q0 l t = true) :
    TrOk P G (XS P G) H0 ops q l fr s t fr' s' ∧ (∀ x ∈ t, Far q0 s x.2.1) ∧ Far q0 s s' := by
  induction l generalizing q hs fr s cd t with
  | nil => simp only [hTr] at h; cases h; exact ⟨.nil, (fun x hx => by cases hx), Far.refl _ _⟩
  | cons o l ih =>
    simp only [hTr] at h
    cases ha : isAlloc o.op with
    | true =>
      rw [ha] at h
      simp only at h
      unfold hTrK at h
      split at h
      · rename_i hs2 cd2 t2 fr2 s2 h2
        cases h
        have hi2 : indepL G ops q0 l t2 = true := by
          simp only [indepL] at hi
          split at hi
          · exact hi
          · split at hi
            · exact hi
            · cases hi
        obtain ⟨k1, k2, k3⟩ := ih h2 (hc.app).2 hi2
        refine ⟨.alloc ha k1, fun x hx => ?_, k3⟩
        rcases List.mem_cons.1 hx with rfl | hx
        · exact Far.refl _ _
        · exact k2 x hx
      · cases h
    | false =>
      rw [ha] at h
      simp only at h
      split at h
      · rename_i v s1 hs1 cd1 h1
        unfold hTrK at h
        split at h
        · rename_i hs2 cd2 t2 fr2 s2 h2
          cases h
          obtain ⟨c1, c2⟩ := hc.app
          have hi1 : awanted ops fr o = true → indep G q0 fr o = true := by
            intro hw
            simp only [indepL, hw] at hi
            split at hi
            · assumption
            · cases hi
          have hi2 : indepL G ops q0 l t2 = true := by
            simp only [indepL] at hi
            split at hi
            · exact hi
            · split at hi
              · exact hi
              · cases hi
          have hf := hOp_far h1 hi1 c1 ha
          obtain ⟨k1, k2, k3⟩ := ih h2 c2 hi2
          refine ⟨.cons ha (hOp_ok h1 c1) k1, fun x hx => ?_, hf.trans k3⟩
          rcases List.mem_cons.1 hx with rfl | hx
          · exact Far.refl _ _
          · exact hf.trans (k2 x hx)
        · cases h
      · cases h
theorem indepL_at {q0 : Nat} {os : List Oper} {ts : List (List AV × AS × AV)} (h : indepL G ops q0 os ts = true) {i : Nat} {o : Oper} {x : List AV × AS × AV} (ho : os[i]? = some o) (hx : ts[i]? = some x) (hw : awanted ops x.1 o = true) : indep G q0 x.1 o = true := by
  induction os generalizing ts i with
  | nil => simp at ho
  | cons y os ih =>
    cases ts with
    | nil => simp at hx
    | cons t ts =>
      simp only [indepL] at h
      cases i with
      | zero =>
        simp at ho hx; subst ho hx
        rw [hw] at h
        simp only at h
        split at h
        · assumption
        · cases h
      | succ i =>
        have h2 : indepL G ops q0 os ts = true := by
          split at h
          · exact h
          · split at h
            · exact h
            · cases h
        exact ih h2 (by simpa using ho) (by simpa using hx)
/-- a reading that does not see the difference -/
theorem far_read {q0 : Nat} {fr : List AV} {s0 s s2 : AS} {o : Oper} {v : AV} (hq : quiet o.op = true) (hr : reads o.op = true) (hi : indep G q0 fr o = true) (h1 : Far q0 s0 s) (h2 : Far q0 s0 s2) (h : aop P G fr s o = some (.val v s)) : aop P G fr s2 o = some (.val v s2) := by
  unfold indep at hi
  split at hi
  · rename_i t a ho
    rw [aevalF_eq] at hi
    unfold aop at h ⊢
    rw [ho] at h ⊢
    simp only at h ⊢
    obtain ⟨v', h3, h4⟩ := map_some h
    injection h4 with h4
    subst h4
    obtain ⟨b, h5, h6⟩ := bind_some h3
    rw [h5] at hi ⊢
    unfold farV at hi
    split at hi
    · rename_i heq; cases heq
      simp only [Option.bind_some]
      rw [show aload P s2 t (.el _) = aload P s t (.el _) from rfl, h6]; rfl
    · rename_i id off heq; cases heq
      have hid : id < q0 := Nat.le_of_ble_eq_true hi
      have : aload P s2 t (.ptr id off) = aload P s t (.ptr id off) := by
        simp only [aload]
        rw [h2 id hid, h1 id hid]
      simp only [Option.bind_some]
      rw [this, h6]; rfl
    · cases hi
  · cases hi
  · rename_i t a x ho; rw [ho] at hq; cases hq
  · rename_i cl ho
    split at hi
    · rename_i f hcl; rw [ho] at hq; simp [quiet, hcl] at hq
    · rename_i hcl
      unfold aop at h ⊢
      rw [ho] at h ⊢
      simp only [acall, hcl] at h ⊢
      split at hi
      · rename_i x hx
        rw [hx] at h ⊢
        cases ht : cl.argTypes.toList with
        | nil => rw [ht] at h; cases h
        | cons t1 ts =>
          cases ts with
          | cons _ _ => rw [ht] at h; cases h
          | nil =>
            rw [ht] at h
            simp only at h ⊢
            obtain ⟨v', h3, h4⟩ := map_some h
            injection h4 with h4
            subst h4
            obtain ⟨b, h5, h6⟩ := bind_some h3
            rw [aevalF_eq, h5] at hi
            rw [h5]
            simp only [Option.bind_some]
            have : alen P s2 t1 b = alen P s t1 b := by
              unfold slV at hi
              split at hi
              · rename_i heq; cases heq; unfold alen; split <;> first | rfl | (simp_all; done)
              · rename_i heq; cases heq; unfold alen; split <;> first | rfl | (simp_all; done)
              · cases hi
            rw [this, h6]; rfl
      · cases hi
    · rename_i hn1 hn2
      rw [ho] at hr
      unfold reads at hr
      simp only at hr
      first
        | (cases hr; done)
        | (split at hr
           · rename_i hcl; exact absurd hcl hn2
           · cases hr)
  · rename_i e ho; rw [ho] at hq; cases hq
  · rename_i hn1 hn2 hn3 hn4 hn5
    exfalso
    unfold reads at hr
    split at hr
    · rename_i ho; exact hn1 _ _ ho
    · rename_i ho; exact hn2 _ _ _ _ ho
    · rename_i ho; exact hn4 _ ho
    · cases hr
theorem draw_far {id : Nat} {fr fr' : List AV} {s s' : AS} {r : List ABlk} {t : List (List AV × AS × AV)} {hs hs' : List Hn} {cd : List Cd} (hord : ordOk ops = true) (hr : rsv P ops.toList = some r) (h : hTr P G ops ops.toList s.nx hs fr (s.hold r) = some (hs', cd, t, fr', s')) (hc : Cds P G cd) (hi : indepL G ops s.nx ops.toList t = true) (hst1 : stable1 P ops t s' s.nx r = true) : J P G (XS P G) H0 (.code (.region id ops true) fr s .normal fr' s') := by
  obtain ⟨htr, hfar, hfar'⟩ := hTr_ok h hc hi
  have hlen : t.length = ops.size := by rw [htr.len, Array.length_toList]
  have hfk : ∀ k, Far s.nx (s.hold r) (stAt t s' k) := by
    intro k
    unfold stAt
    split
    · rename_i x hx; exact hfar x (List.mem_of_getElem? hx)
    · exact hfar'
  obtain ⟨h0, hat⟩ := htr.at
  have hdst : ∀ i o, ops[i]? = some o → dstOf ops i = o.dst := fun i o ho => by unfold dstOf; rw [ho]; rfl
  obtain ⟨hfin, hfrs⟩ := htr.frames (dstOf ops) (vlAt t) fr 0 rfl (fun i o ho => by rw [Nat.zero_add]; exact hdst i o (by rw [← Array.getElem?_toList]; exact ho)) (fun i => .inl (by rw [Nat.zero_add]))
  rw [Nat.zero_add, Array.length_toList] at hfin
  have hall : ∀ (i : Nat) (o : Oper), ops[i]? = some o → isAlloc o.op = false → J P G (XS P G) H0 (.op ops o (frX fr (dstOf ops) (vlAt t) (fun _ => true) i) (stAt t s' i) (.ret (vlAt t i)) (stAt t s' (i + 1))) := by
    intro i o ho hna
    obtain ⟨fi, h1, h2⟩ := hat i o (toList_get ho)
    have := hfrs i _ h1
    simp only [Nat.zero_add] at this
    rcases h2 with ⟨_, h2⟩ | ⟨h2, _⟩
    · rw [← this]
      exact h2
    · rw [hna] at h2; cases h2
  have hallA : ∀ (i : Nat) (o : Oper), ops[i]? = some o → isAlloc o.op = true → stAt t s' (i + 1) = stAt t s' i ∧ vlAt t i = allocV ops (frX fr (dstOf ops) (vlAt t) (fun _ => true) i) o (s.nx + rk ops i) := by
    intro i o ho hya
    obtain ⟨fi, h1, h2⟩ := hat i o (toList_get ho)
    have := hfrs i _ h1
    simp only [Nat.zero_add] at this
    rcases h2 with ⟨h2, _⟩ | ⟨_, h2⟩
    · rw [hya] at h2; cases h2
    · rw [← this]
      exact h2
  have hna : ∀ o : Oper, quiet o.op = true → isAlloc o.op = false := by
    intro o hq
    cases hya : isAlloc o.op with
    | false => rfl
    | true => obtain ⟨e, he⟩ := isAlloc_ok hya; rw [alloc_not_quiet he] at hq; cases hq
  have hnl : ∀ o : Oper, calm o.op = false → isAlloc o.op = false := by
    intro o hq
    cases hya : isAlloc o.op with
    | false => rfl
    | true => unfold calm at hq; rw [hya] at hq; cases hq
  have hsn : stAt t s' ops.size = s' := by
    unfold stAt
    rw [List.getElem?_eq_none (by omega)]
  have hsk : ∀ k, k ≤ ops.size → (t.map (fun x => x.2.1) ++ [s'])[k]? = some (stAt t s' k) := by
    intro k hk
    unfold stAt
    by_cases hkt : k < t.length
    · rw [List.getElem?_append_left (by simpa using hkt), List.getElem?_map, List.getElem?_eq_getElem hkt]; rfl
    · have : k = t.length := by omega
      subst this
      rw [List.getElem?_append_right (by simp)]
      simp
  have hloud : ∀ l, l ∈ loudsOf ops.toList 0 → loud ops l := by
    intro l hl
    obtain ⟨j, o', e, h5, h6⟩ := loudsOf_loud hl
    rw [Nat.zero_add] at e
    subst e
    exact ⟨o', by rw [← Array.getElem?_toList]; exact h5, h6⟩
  have key := J.draw (P := P) (G := G) (X := XS P G) (H := H0) (id := id) (f0 := fr) (s0 := s) r (vlAt t) (stAt t s') h0 hord (fun i o ho hl => hall i o ho (hnl o hl)) (fun i o ho hq => by
    obtain ⟨h1, h2⟩ := quiet_inv hq (hall i o ho (hna o hq))
    refine ⟨h1, ?_⟩
    rcases h2 with h2 | ⟨hw, h2⟩
    · exact .inl h2
    · refine .inr ⟨hw, fun k hk hwin => ?_⟩
      cases hrd : reads o.op with
      | false => exact quiet_free hq hrd h2 _
      | true =>
        obtain ⟨fi, hti, _⟩ := hat i o (toList_get ho)
        have hfi := hfrs i _ hti
        simp only [Nat.zero_add] at hfi
        have hin := indepL_at hi (toList_get ho) hti (by rw [hfi]; exact hw)
        rw [hfi] at hin
        exact far_read hq hrd hin (hfk i) (hfk k) h2) (fun i o e ho he => by
    have hya : isAlloc o.op = true := by rw [he]; rfl
    obtain ⟨h1, h2⟩ := hallA i o ho hya
    refine ⟨h1, ?_⟩
    have hrk : rk ops i < r.length := by
      rw [rsv_len hr]
      exact rkL_lt (toList_get ho) hya (by rw [Array.length_toList]; exact (Array.getElem?_eq_some_iff.1 ho).1)
    cases hw : awanted ops (frX fr (dstOf ops) (vlAt t) (fun _ => true) i) o with
    | false => unfold allocV at h2; rw [hw] at h2; exact .inl ⟨rfl, h2⟩
    | true =>
      unfold allocV at h2; rw [hw] at h2
      obtain ⟨fi, hti, _⟩ := hat i o (toList_get ho)
      have hfi := hfrs i _ hti
      simp only [Nat.zero_add] at hfi
      have hal : allocL P ops (masks ops.toList []) (loudsOf ops.toList 0) (t.map (·.2.1) ++ [s']) ops.toList t 0 s.nx = true := by
        unfold stable1 at hst1
        split at hst1
        · simp at hrk
        · exact hst1
      obtain ⟨z, hz, hbx⟩ := allocL_ok hal (toList_get ho) hti he (by rw [hfi]; exact hw)
      rw [Nat.zero_add] at hbx
      exact .inr ⟨rfl, z, hz, hrk, h2, fun k hk hwin => boxAll_ok hbx (hsk k hk) (by rw [Nat.zero_add]; exact winB_ok hloud hwin)⟩)
  rw [← hfin, hsn] at key
  exact key
end
end AI
/- Paths: runs of code without loops over unknown values; what is decided and what is called is told by hints. -/
namespace AI
open Go Go.RowKit

abbrev HS := Option (List Hn × List Cd × List AV × AS)
def hNext (cd : List Cd) : HS → HS
  | some (hs, cd', fr, s) => some (hs, cd ++ cd', fr, s)
  | none => none
def hOps (P : Program) (G : Glob) (ops : Array Oper) : List Oper → List Hn → List AV → AS → HS
  | [], hs, fr, s => some (hs, [], fr, s)
  | o :: l, hs, fr, s => (match hOp P G ops fr s o hs with
    | some (v, s1, hs1, cd) => hNext cd (hOps P G ops l hs1 (aput fr o.dst v) s1)
    | none => none)
/-- operations that leave the state -/
def steady (op : Op) : Bool := match quiet op with
  | true => true
  | false => (match op with
    | .call cl => (match cl.callee with | .value _ => true | _ => false)
    | _ => false)
def steadyL : List Oper → Bool
  | [] => true
  | o :: l => (match steady o.op with | true => steadyL l | false => false)
abbrev HC := Option (AX × List Hn × List Cd × List AV × AS)
def hFin : HS → HC
  | some (hs, cd, fr, s) => some (.normal, hs, cd, fr, s)
  | none => none
def hThen (cd : List Cd) : HC → HC
  | some (e, hs, cd', fr, s) => some (e, hs, cd ++ cd', fr, s)
  | none => none
/-- a region that makes boxes and fills them -/
def hFar (P : Program) (G : Glob) (ops : Array Oper) (hs : List Hn) (fr : List AV) (s : AS) : HC := match rsv P ops.toList with
  | some r => (match hTr P G ops ops.toList s.nx hs fr (s.hold r) with
    | some (hs', cd, t, fr', s') => (match indepL G ops s.nx ops.toList t with
      | true => (match stable1 P ops t s' s.nx r with
        | true => some (.normal, hs', cd, fr', s')
        | false => none)
      | false => none)
    | none => none)
  | none => none
def hCode (P : Program) (G : Glob) : Code → List Hn → List AV → AS → HC
  | .skip, hs, fr, s => some (.normal, hs, [], fr, s)
  | .exit id, hs, fr, s => some (.exit id, hs, [], fr, s)
  | .ret, hs, fr, s => some (.ret, hs, [], fr, s)
  | .seq x y, hs, fr, s => (match hCode P G x hs fr s with
    | some (.normal, hs1, cd, fr1, s1) => hThen cd (hCode P G y hs1 fr1 s1)
    | r => r)
  | .cond q x y, hs, fr, s => (match aevalF G fr q with
    | some (.sc (.bool true)) => hCode P G x hs fr s
    | some (.sc (.bool false)) => hCode P G y hs fr s
    | _ => none)
  | .block id c, hs, fr, s => (match hCode P G c hs fr s with
    | some (e, hs1, cd, fr1, s1) => some (unblock id e, hs1, cd, fr1, s1)
    | none => none)
  | .region _ ops d, hs, fr, s => (match d with
    | false => hFin (hOps P G ops ops.toList hs fr s)
    | true => (match ordOk ops with
      | true => (match steadyL ops.toList with
        | true => hFin (hOps P G ops ops.toList hs fr s)
        | false => hFar P G ops hs fr s)
      | false => none))
  | _, _, _, _ => none
section
variable {P : Program} {G : Glob} {ops : Array Oper}
theorem hOps_ok {l : List Oper} {k : Nat} (hk : l = ops.toList.drop k) {hs hs' : List Hn} {fr fr' : List AV} {s s' : AS} {cd : List Cd} (h : hOps P G ops l hs fr s = some (hs', cd, fr', s')) (hc : Cds P G cd) : J P G (XS P G) H0 (.ops ops (List.range' k l.length) fr s .normal fr' s') := by
  induction l generalizing k hs fr s cd with
  | nil => simp only [hOps] at h; cases h; exact .opsNil
  | cons o l ih =>
    simp only [hOps] at h
    split at h
    · rename_i v s1 hs1 cd1 h1
      unfold hNext at h
      split at h
      · rename_i hs2 cd2 fr2 s2 h2
        cases h
        obtain ⟨c1, c2⟩ := hc.app
        obtain ⟨k1, k2⟩ := drop_cons hk
        rw [List.length_cons, List.range'_succ]
        exact .opsCons (by rw [← Array.getElem?_toList]; exact k1) (hOp_ok h1 c1) (ih k2 h2 c2)
      · cases h
    · cases h
/-- the trace of a steady region -/
theorem hOps_tr {l : List Oper} {q : Nat} (hst : steadyL l = true) {hs hs' : List Hn} {fr fr' : List AV} {s s' : AS} {cd : List Cd} (h : hOps P G ops l hs fr s = some (hs', cd, fr', s')) (hc : Cds P G cd) : s' = s ∧ ∃ t, TrOk P G (XS P G) H0 ops q l fr s t fr' s ∧ ∀ x ∈ t, x.2.1 = s := by
  induction l generalizing hs fr cd s with
  | nil => simp only [hOps] at h; cases h; exact ⟨rfl, [], .nil, fun x hx => by cases hx⟩
  | cons o l ih =>
    simp only [steadyL] at hst
    split at hst
    · rename_i hso
      simp only [hOps] at h
      split at h
      · rename_i v s1 hs1 cd1 h1
        unfold hNext at h
        split at h
        · rename_i hs2 cd2 fr2 s2 h2
          cases h
          obtain ⟨c1, c2⟩ := hc.app
          have hj := hOp_ok h1 c1
          have hna : isAlloc o.op = false := by
            cases ha : isAlloc o.op with
            | false => rfl
            | true => obtain ⟨e, he⟩ := isAlloc_ok ha; rw [he] at hso; simp [steady, quiet] at hso
          have hs1 : s1 = s := by
            cases hq : quiet o.op with
            | true => exact (quiet_inv hq hj).1
            | false =>
              unfold steady at hso
              rw [hq] at hso
              simp only at hso
              split at hso
              · rename_i cl hop
                split at hso
                · rename_i f hcl
                  unfold hOp at h1
                  split at h1
                  · unfold hDo at h1
                    rw [hop] at h1
                    simp only [hcl] at h1
                    unfold hCall at h1
                    split at h1
                    · split at h1
                      · cases h1; rfl
                      · cases h1
                    · cases h1
                  · cases h1; rfl
                · cases hso
              · cases hso
          subst hs1
          obtain ⟨e, t, ht, hall⟩ := ih hst h2 c2
          subst e
          exact ⟨rfl, _, .cons hna hj ht, fun x hx => by
            rcases List.mem_cons.1 hx with rfl | hx
            · rfl
            · exact hall x hx⟩
        · cases h
      · cases h
    · cases hst
theorem steady_not_alloc {l : List Oper} (hst : steadyL l = true) {i : Nat} {o : Oper} (ho : l[i]? = some o) : steady o.op = true := by
  induction l generalizing i with
  | nil => simp at ho
  | cons x l ih =>
    simp only [steadyL] at hst
    split at hst
    · rename_i hso
      cases i with
      | zero => simp at ho; subst ho; exact hso
      | succ i => exact ih hst (by simpa using ho)
    · cases hst
theorem draw_const {X : Exts} {H : Hook} {id : Nat} {fr fr' : List AV} {s : AS} {t : List (List AV × AS × AV)} (hord : ordOk ops = true) (hst : steadyL ops.toList = true) (h : TrOk P G X H ops s.nx ops.toList fr s t fr' s) (hall : ∀ x ∈ t, x.2.1 = s) : J P G X H (.code (.region id ops true) fr s .normal fr' s) := by
  have hlen : t.length = ops.size := by rw [h.len, Array.length_toList]
  obtain ⟨h0, hat⟩ := h.at
  have hsa : ∀ i, stAt t s i = s := by
    intro i
    unfold stAt
    split
    · rename_i x hx; exact hall x (List.mem_of_getElem? hx)
    · rfl
  have hdst : ∀ i o, ops[i]? = some o → dstOf ops i = o.dst := fun i o ho => by unfold dstOf; rw [ho]; rfl
  obtain ⟨hfin, hfrs⟩ := h.frames (dstOf ops) (vlAt t) fr 0 rfl (fun i o ho => by rw [Nat.zero_add]; exact hdst i o (by rw [← Array.getElem?_toList]; exact ho)) (fun i => .inl (by rw [Nat.zero_add]))
  rw [Nat.zero_add, Array.length_toList] at hfin
  have hna : ∀ (i : Nat) (o : Oper), ops[i]? = some o → isAlloc o.op = false := by
    intro i o ho
    have := steady_not_alloc hst (toList_get ho)
    cases ha : isAlloc o.op with
    | false => rfl
    | true => obtain ⟨e, he⟩ := isAlloc_ok ha; rw [he] at this; simp [steady, quiet] at this
  have hj : ∀ i o, ops[i]? = some o → J P G X H (.op ops o (frX fr (dstOf ops) (vlAt t) (fun _ => true) i) s (.ret (vlAt t i)) s) := by
    intro i o ho
    obtain ⟨fi, h1, h2⟩ := hat i o (toList_get ho)
    have := hfrs i _ h1
    simp only [Nat.zero_add] at this
    rcases h2 with ⟨_, h2⟩ | ⟨h2, _⟩
    · rw [← this]
      rw [hsa, hsa] at h2
      exact h2
    · rw [hna i o ho] at h2; cases h2
  have key := J.draw (P := P) (G := G) (X := X) (H := H) (id := id) (f0 := fr) (s0 := s) [] (vlAt t) (fun _ => s) rfl hord (fun i o ho _ => hj i o ho) (fun i o ho hq => ⟨rfl, by
    obtain ⟨_, h2⟩ := quiet_inv hq (hj i o ho)
    rcases h2 with h2 | ⟨hw, h2⟩
    · exact .inl h2
    · exact .inr ⟨hw, fun k _ _ => h2⟩⟩) (fun i o e ho he => by have := hna i o ho; rw [he] at this; cases this)
  rw [← hfin] at key
  exact key
theorem hCode_ok (c : Code) {hs hs' : List Hn} {fr fr' : List AV} {s s' : AS} {e : AX} {cd : List Cd} (h : hCode P G c hs fr s = some (e, hs', cd, fr', s')) (hc : Cds P G cd) : J P G (XS P G) H0 (.code c fr s e fr' s') := by
  induction c generalizing hs hs' fr fr' s s' e cd with
  | skip => simp only [hCode] at h; cases h; exact .skip
  | exit id => simp only [hCode] at h; cases h; exact .exit
  | ret => simp only [hCode] at h; cases h; exact .ret
  | seq x y ihx ihy =>
    simp only [hCode] at h
    cases hx : hCode P G x hs fr s with
    | none => rw [hx] at h; cases h
    | some r =>
      obtain ⟨e1, hs1, cd1, fr1, s1⟩ := r
      rw [hx] at h
      cases e1 with
      | normal =>
        simp only at h
        unfold hThen at h
        split at h
        · rename_i e2 hs2 cd2 fr2 s2 h2
          cases h
          obtain ⟨c1, c2⟩ := hc.app
          exact .seq (ihx hx c1) (ihy h2 c2)
        · cases h
      | exit id => simp only at h; cases h; exact .seqX (ihx hx hc) (by simp)
      | ret => simp only at h; cases h; exact .seqX (ihx hx hc) (by simp)
      | pan v => simp only at h; cases h; exact .seqX (ihx hx hc) (by simp)
  | cond q x y ihx ihy =>
    simp only [hCode, aevalF_eq] at h
    split at h
    · rename_i hq; exact .cond hq (ihx h hc)
    · rename_i hq; exact .cond hq (ihy h hc)
    · cases h
  | block id c ih =>
    simp only [hCode] at h
    split at h
    · rename_i h1; cases h; exact .block (ih h1 hc)
    · cases h
  | region id ops d =>
    simp only [hCode] at h
    cases d with
    | false =>
      simp only at h
      unfold hFin at h
      split at h
      · rename_i h1
        cases h
        have := hOps_ok (ops := ops) (k := 0) (by simp) h1 hc
        refine .region ?_
        rw [Array.length_toList] at this
        rw [List.range_eq_range']
        exact this
      · cases h
    | true =>
      simp only at h
      split at h
      · rename_i hord
        split at h
        · rename_i hst
          unfold hFin at h
          split at h
          · rename_i h1
            cases h
            obtain ⟨e, t, ht, hall⟩ := hOps_tr (q := s.nx) hst h1 hc
            subst e
            exact draw_const hord hst ht hall
          · cases h
        · unfold hFar at h
          split at h
          · rename_i r hr
            split at h
            · rename_i hs1 cd1 t fr1 s1 htr
              split at h
              · rename_i hi
                split at h
                · rename_i hst1
                  cases h
                  exact draw_far hord hr htr hc hi hst1
                · cases h
              · cases h
            · cases h
          · cases h
      · cases h
  | _ => simp only [hCode] at h; cases h
/-- a piece of code without loops -/
theorem W_path {c : Code} (hs : List Hn) (e : AX) (cd : List Cd) (fr' : List AV) (s' : AS) {fr : List AV} {s : AS} {Q : AX → List AV → AS → Prop} (h : hCode P G c hs fr s = some (e, [], cd, fr', s')) (hc : Cds P G cd) (k : Q e fr' s') : W P G (XS P G) H0 c fr s Q := ⟨_, _, _, hCode_ok c h hc, k⟩
def hasLoop : Code → Bool
  | .loop _ => true
  | .seq x y => hasLoop x || hasLoop y
  | .cond _ x y => hasLoop x || hasLoop y
  | .block _ c => hasLoop c
  | _ => false
abbrev HP := Option (Code × List Hn × List Cd × List AV × AS)
def hMore (cd : List Cd) : HP → HP
  | some (c, hs, cd', fr, s) => some (c, hs, cd ++ cd', fr, s)
  | none => none
/-- up to the first piece with a loop -/
def hPre (P : Program) (G : Glob) : Code → List Hn → List AV → AS → HP
  | .seq x y, hs, fr, s => (match hasLoop x with
    | true => some (.seq x y, hs, [], fr, s)
    | false => (match hCode P G x hs fr s with
      | some (.normal, hs1, cd, fr1, s1) => hMore cd (hPre P G y hs1 fr1 s1)
      | _ => none))
  | c, hs, fr, s => some (c, hs, [], fr, s)
theorem hPre_ok (c : Code) {c' : Code} {hs hs' : List Hn} {fr fr' : List AV} {s s' : AS} {cd : List Cd} (h : hPre P G c hs fr s = some (c', hs', cd, fr', s')) (hc : Cds P G cd) {Q : AX → List AV → AS → Prop} (k : W P G (XS P G) H0 c' fr' s' Q) : W P G (XS P G) H0 c fr s Q := by
  induction c generalizing hs hs' fr fr' s s' cd c' with
  | seq x y ihx ihy =>
    simp only [hPre] at h
    split at h
    · cases h; exact k
    · split at h
      · rename_i hs1 cd1 fr1 s1 hx
        unfold hMore at h
        split at h
        · rename_i c2 hs2 cd2 fr2 s2 h2
          cases h
          obtain ⟨c1, c3⟩ := hc.app
          exact W_seq ⟨_, _, _, hCode_ok x hx c1, ihy h2 c3 k⟩
        · cases h
      · cases h
  | _ => simp only [hPre] at h; cases h; exact k
theorem W_pre {c : Code} (hs : List Hn) (c' : Code) (cd : List Cd) (fr' : List AV) (s' : AS) {fr : List AV} {s : AS} {Q : AX → List AV → AS → Prop} (h : hPre P G c hs fr s = some (c', [], cd, fr', s')) (hc : Cds P G cd) (k : W P G (XS P G) H0 c' fr' s' Q) : W P G (XS P G) H0 c fr s Q := hPre_ok c h hc k
end
end AI
/- Walking functions with loops over unknown values. -/
namespace AI
open Go Go.RowKit

inductive Sp where
  | at (c : Code) (ks : List Code)
  | fin (e : AX)
def thenL (P : Program) (G : Glob) (X : Exts) (H : Hook) : List Code → (AX → List AV → AS → Prop) → AX → List AV → AS → Prop
  | [], Q => Q
  | k :: ks, Q => thenQ P G X H k (thenL P G X H ks Q)
abbrev HK := Option (Sp × List Hn × List Cd × List AV × AS)
def hMoreK (cd : List Cd) : HK → HK
  | some (c, hs, cd', fr, s) => some (c, hs, cd ++ cd', fr, s)
  | none => none
def hOne (P : Program) (G : Glob) (r : Code → List Code → List Hn → List AV → AS → HK) (c : Code) (ks : List Code) (hs : List Hn) (fr : List AV) (s : AS) : HK :=
  match hasLoop c with
  | true => some (.at c ks, hs, [], fr, s)
  | false => (match hCode P G c hs fr s with
    | some (.normal, hs1, cd, fr1, s1) => (match ks with
      | [] => some (.fin .normal, hs1, cd, fr1, s1)
      | k :: ks => hMoreK cd (r k ks hs1 fr1 s1))
    | some (e, hs1, cd, fr1, s1) => some (.fin e, hs1, cd, fr1, s1)
    | none => none)
/-- up to the first piece with a loop -/
def hPreK (P : Program) (G : Glob) : Nat → Code → List Code → List Hn → List AV → AS → HK
  | 0, _, _, _, _, _ => none
  | n + 1, .seq x y, ks, hs, fr, s => hPreK P G n x (y :: ks) hs fr s
  | n + 1, c, ks, hs, fr, s => hOne P G (hPreK P G n) c ks hs fr s
section
variable {P : Program} {G : Glob}
theorem thenL_not {X : Exts} {H : Hook} {ks : List Code} {Q : AX → List AV → AS → Prop} {e : AX} {fr : List AV} {s : AS} (he : e ≠ .normal) (h : Q e fr s) : thenL P G X H ks Q e fr s := by
  induction ks with
  | nil => exact h
  | cons k ks ih =>
    cases e with
    | normal => exact absurd rfl he
    | exit id => exact ih
    | ret => exact ih
    | pan v => exact ih
def SpQ (P : Program) (G : Glob) (Q : AX → List AV → AS → Prop) (fr : List AV) (s : AS) : Sp → Prop
  | .at c ks => W P G (XS P G) H0 c fr s (thenL P G (XS P G) H0 ks Q)
  | .fin e => Q e fr s
theorem hPreK_ok : ∀ (n : Nat) (c : Code) (ks : List Code) {sp : Sp} {hs hs' : List Hn} {fr fr' : List AV} {s s' : AS} {cd : List Cd} {Q : AX → List AV → AS → Prop}, hPreK P G n c ks hs fr s = some (sp, hs', cd, fr', s') → Cds P G cd → SpQ P G Q fr' s' sp → W P G (XS P G) H0 c fr s (thenL P G (XS P G) H0 ks Q) := by
  intro n
  induction n with
  | zero => intro c ks sp hs hs' fr fr' s s' cd Q h; simp only [hPreK] at h; cases h
  | succ n ih =>
    intro c ks sp hs hs' fr fr' s s' cd Q h hc hk
    have other : hOne P G (hPreK P G n) c ks hs fr s = some (sp, hs', cd, fr', s') → W P G (XS P G) H0 c fr s (thenL P G (XS P G) H0 ks Q) := by
      intro h
      unfold hOne at h
      split at h
      · cases h; exact hk
      · cases hx : hCode P G c hs fr s with
        | none => rw [hx] at h; cases h
        | some r =>
          obtain ⟨e1, hs1, cd1, fr1, s1⟩ := r
          rw [hx] at h
          cases e1 with
          | normal =>
            simp only at h
            cases ks with
            | nil => cases h; exact ⟨_, _, _, hCode_ok c hx hc, hk⟩
            | cons k ks =>
              simp only at h
              unfold hMoreK at h
              split at h
              · rename_i sp2 hs2 cd2 fr2 s2 h2
                cases h
                obtain ⟨c1, c2⟩ := hc.app
                exact ⟨_, _, _, hCode_ok c hx c1, ih k ks h2 c2 hk⟩
              · cases h
          | exit id => simp only at h; cases h; exact ⟨_, _, _, hCode_ok c hx hc, thenL_not (by simp) hk⟩
          | ret => simp only at h; cases h; exact ⟨_, _, _, hCode_ok c hx hc, thenL_not (by simp) hk⟩
          | pan v => simp only at h; cases h; exact ⟨_, _, _, hCode_ok c hx hc, thenL_not (by simp) hk⟩
    cases c with
    | seq x y =>
      simp only [hPreK] at h
      exact W_seq (ih x (y :: ks) h hc hk)
    | _ => simp only [hPreK] at h; exact other h
theorem W_go {c : Code} (n : Nat) (hs : List Hn) (sp : Sp) (cd : List Cd) (fr' : List AV) (s' : AS) {ks : List Code} {fr : List AV} {s : AS} {Q : AX → List AV → AS → Prop} (h : hPreK P G n c ks hs fr s = some (sp, [], cd, fr', s')) (hc : Cds P G cd) (k : SpQ P G Q fr' s' sp) : W P G (XS P G) H0 c fr s (thenL P G (XS P G) H0 ks Q) := hPreK_ok n c ks h hc k
/-- the same for a piece with nothing behind it -/
theorem W_go0 {c : Code} (n : Nat) (hs : List Hn) (sp : Sp) (cd : List Cd) (fr' : List AV) (s' : AS) {fr : List AV} {s : AS} {Q : AX → List AV → AS → Prop} (h : hPreK P G n c [] hs fr s = some (sp, [], cd, fr', s')) (hc : Cds P G cd) (k : SpQ P G Q fr' s' sp) : W P G (XS P G) H0 c fr s Q := hPreK_ok n c [] h hc k
theorem W_blockLoop {id : Nat} {c : Code} {fr : List AV} {s : AS} {Q : AX → List AV → AS → Prop} (h : WL P G (XS P G) H0 c fr s (blockQ id Q)) : W P G (XS P G) H0 (.block id (.loop c)) fr s Q := W_block (W_loop h)
theorem exit_then {id : Nat} {k : Code} {ks : List Code} {fr : List AV} {s : AS} {Q : AX → List AV → AS → Prop} (h : W P G (XS P G) H0 k fr s (thenL P G (XS P G) H0 ks Q)) : blockQ id (thenL P G (XS P G) H0 (k :: ks) Q) (.exit id) fr s := by
  show thenL P G (XS P G) H0 (k :: ks) Q (unblock id (.exit id)) fr s
  have : unblock id (.exit id) = .normal := by simp [unblock]
  rw [this]
  exact h
theorem ret_then {id : Nat} {ks : List Code} {fr : List AV} {s : AS} {Q : AX → List AV → AS → Prop} (h : Q .ret fr s) : blockQ id (thenL P G (XS P G) H0 ks Q) .ret fr s := thenL_not (e := .ret) (by simp) h
/-- what is forgotten at the end of a round -/
structure Fgt (s s' s2 : AS) (fr' fr2 : List AV) : Prop where
  hn : s2.nx = s.nx
  hr : s2.nr = s.nr
  hh : dropW s.nx s'.h = s2.h
  hu : ∀ e ∈ s2.h, underB s.nx s.nr e.2 = true
  hF : ∀ r, memN r s2.F = true → memN r s'.F = true ∧ r < s.nr
  hf : Fg s.nx s.nr fr' fr2
theorem dropW_lt {l : List (Nat × ABlk)} {N n : Nat} (h : Desc l N) : Desc (dropW n l) n := by
  induction l generalizing N with
  | nil => trivial
  | cons e l ih =>
    simp only [dropW]
    split
    · exact ih h.2
    · rename_i hb
      refine ⟨?_, h.2⟩
      have : ¬ n ≤ e.1 := fun hle => by rw [Nat.ble_eq_true_of_le hle] at hb; cases hb
      omega
theorem look_mem {l : List (Nat × ABlk)} {id : Nat} {b : ABlk} (h : look id l = some b) : ∃ e ∈ l, e.2 = b := by
  induction l with
  | nil => cases h
  | cons e l ih =>
    simp only [look] at h
    split at h
    · cases h; exact ⟨e, List.mem_cons_self, rfl⟩
    · obtain ⟨x, hx, hb⟩ := ih h; exact ⟨x, List.mem_cons_of_mem _ hx, hb⟩
theorem Fgt.ok (hG : ∀ g cs, G g = some cs → plainL cs = true) {s s' s2 : AS} {fr' fr2 : List AV} (h : Fgt s s' s2 fr' fr2) (cx : Cx) (w : World) (c' : Cx) (w' : World) (vs : List Value) (hx : Ext cx w c' w') (hs : St G cx w s) (hs' : St G c' w' s') (hfr : RpL c' w' fr' vs) :
    ∃ c2, Ext cx w c2 w' ∧ St G c2 w' s2 ∧ RpL c2 w' fr2 vs :=
  forget hG h.hn h.hr (by rw [← h.hh, h.hn]; exact dropW_lt hs'.desc) (fun id b hl => by
    refine ⟨dropW_look (k := s.nx) hs'.desc (by rw [h.hh]; exact hl), ?_⟩
    obtain ⟨e, he, hb⟩ := look_mem hl
    rw [← hb]; exact h.hu e he) h.hF h.hf cx w c' w' vs hx hs hs' hfr
/-- one round -/
theorem WL_round (hG : ∀ g cs, G g = some cs → plainL cs = true) {c : Code} {fr fr2 : List AV} {s s2 : AS} {Q : AX → List AV → AS → Prop} (h : W P G (XS P G) H0 c fr s (fun e fr' s' => (e = .normal ∧ Fgt s s' s2 fr' fr2) ∨ (e ≠ .normal ∧ Q e fr' s'))) (k : WL P G (XS P G) H0 c fr2 s2 Q) : WL P G (XS P G) H0 c fr s Q := by
  obtain ⟨e, fr', s', hj, h2⟩ := h
  rcases h2 with ⟨rfl, h2⟩ | ⟨he, h2⟩
  · obtain ⟨e3, fr3, s3, h3, h4⟩ := k
    exact ⟨e3, fr3, s3, .loopN (.scope hj (fun _ h => by cases h) (fun cx w c' w' vs hx hs hs' hfr => h2.ok hG cx w c' w' vs hx hs hs' hfr)) h3, h4⟩
  · exact ⟨_, _, _, .loopX hj he, h2⟩
/-- one round, the frame at its end being told behind -/
theorem WL_roundE (hG : ∀ g cs, G g = some cs → plainL cs = true) {c : Code} {fr : List AV} {s : AS} {Q : AX → List AV → AS → Prop} (h : W P G (XS P G) H0 c fr s (fun e fr' s' => (e = .normal ∧ ∃ fr2 s2, Fgt s s' s2 fr' fr2 ∧ WL P G (XS P G) H0 c fr2 s2 Q) ∨ (e ≠ .normal ∧ Q e fr' s'))) : WL P G (XS P G) H0 c fr s Q := by
  obtain ⟨e, fr', s', hj, h2⟩ := h
  rcases h2 with ⟨rfl, fr2, s2, h2, k⟩ | ⟨he, h2⟩
  · obtain ⟨e3, fr3, s3, h3, h4⟩ := k
    exact ⟨e3, fr3, s3, .loopN (.scope hj (fun _ h => by cases h) (fun cx w c' w' vs hx hs hs' hfr => h2.ok hG cx w c' w' vs hx hs hs' hfr)) h3, h4⟩
  · exact ⟨_, _, _, .loopX hj he, h2⟩
theorem exit_norm {id : Nat} {Q : AX → List AV → AS → Prop} {fr : List AV} {s : AS} (h : Q .normal fr s) : blockQ id Q (.exit id) fr s := by
  show Q (unblock id (.exit id)) fr s
  have : unblock id (.exit id) = .normal := by simp [unblock]
  rw [this]; exact h
theorem WL_last {c : Code} {fr : List AV} {s : AS} {Q : AX → List AV → AS → Prop} (h : W P G (XS P G) H0 c fr s (fun e fr' s' => e ≠ .normal ∧ Q e fr' s')) : WL P G (XS P G) H0 c fr s Q := by
  obtain ⟨e, fr', s', hj, he, h2⟩ := h
  exact ⟨_, _, _, .loopX hj he, h2⟩
/-- a value is forgotten -/
inductive Wk : List AV → List AV → Prop where
  | nil : Wk [] []
  | keep {a : AV} {l k : List AV} (t : Wk l k) : Wk (a :: l) (a :: k)
  | drop {a : AV} {l k : List AV} (h : canDrop a = true) (t : Wk l k) : Wk (a :: l) (.any :: k)
  | lost {o : Own} {j : Nat} {cs l k : List AV} (t : Wk l k) : Wk (.sl o j cs :: l) (.sl .lost j cs :: k)
theorem Wk.ok {l k : List AV} (h : Wk l k) {c : Cx} {w : World} {vs : List Value} (hr : RpL c w l vs) : RpL c w k vs := by
  induction h generalizing vs with
  | nil => exact hr
  | keep _ ih => cases hr with | cons h1 t => exact .cons h1 (ih t)
  | drop h _ ih => cases hr with | cons h1 t => exact .cons (.any (canDrop_ok h1 h)) (ih t)
  | lost _ ih =>
    cases hr with
    | cons h1 t =>
      refine .cons ?_ (ih t)
      cases h1 with
      | sl0 _ => exact .sl0 trivial
      | sl1 hn hc ho => exact .sl1 hn hc trivial
theorem WL_weak {c : Code} {fr fr2 : List AV} {s : AS} {Q : AX → List AV → AS → Prop} (h : Wk fr fr2) (k : WL P G (XS P G) H0 c fr2 s Q) : WL P G (XS P G) H0 c fr s Q := by
  obtain ⟨e3, fr3, s3, h3, h4⟩ := k
  exact ⟨e3, fr3, s3, .weakL (fun cx w vs hs hr => ⟨hs, h.ok hr⟩) h3, h4⟩
theorem W_weak {c : Code} {fr fr2 : List AV} {s : AS} {Q : AX → List AV → AS → Prop} (h : Wk fr fr2) (k : W P G (XS P G) H0 c fr2 s Q) : W P G (XS P G) H0 c fr s Q := by
  obtain ⟨e3, fr3, s3, h3, h4⟩ := k
  exact ⟨e3, fr3, s3, .weak (fun cx w vs hs hr => ⟨hs, h.ok hr⟩) h3, h4⟩
/-- a call that leaves the boxes as they were -/
theorem call_scope (hm : P.follows .mixedOrders = true) (hG : ∀ g cs, G g = some cs → plainL cs = true) {f : FuncId} {args : List AV} {s s' : AS} {v : AV} (h : J P G (XS P G) H0 (.call f args s (.ret v) s')) (hh : dropW s.nx s'.h = s.h) (hu : ∀ e ∈ s.h, underB s.nx s.nr e.2 = true) (hF : s.F = []) (hv : under s.nx s.nr v = true) : Sound P G (.call f args s (.ret v) s) := by
  have hS := sound (givenS hm) h
  intro cx w vs hs hargs
  refine (hS cx w vs hs hargs).mono ?_
  rintro e w' ⟨c', hx, hs', u, rfl, hu'⟩
  have fg : Fgt s s' s [v] [v] := ⟨rfl, rfl, hh, hu, (fun r hr => by rw [hF] at hr; cases hr), .keep hv .nil⟩
  obtain ⟨c2, x2, st2, f2⟩ := fg.ok hG cx w c' w' [u] hx hs hs' (.cons hu' .nil)
  cases f2 with
  | cons f3 _ => exact ⟨c2, x2, st2, u, rfl, f3⟩
theorem call_of_W (hm : P.follows .mixedOrders = true) (hG : ∀ g cs, G g = some cs → plainL cs = true) {f : FuncId} {args : List AV} {s : AS} {v : AV} (h : WC P G (XS P G) H0 f args s (fun r s' => r = .ret v ∧ dropW s.nx s'.h = s.h)) (hu : ∀ e ∈ s.h, underB s.nx s.nr e.2 = true) (hF : s.F = []) (hv : under s.nx s.nr v = true) : Sound P G (.call f args s (.ret v) s) := by
  obtain ⟨r, s', hj, rfl, hh⟩ := h
  exact call_scope hm hG hj hh hu hF hv
/-- as above, growing slices being kept too -/
structure FgtR (s s' s2 : AS) (fr' fr2 : List AV) : Prop where
  hn : s2.nx = s.nx
  hr : s.nr ≤ s2.nr
  hh : dropW s.nx s'.h = s2.h
  hu : ∀ e ∈ s2.h, underB s.nx s2.nr e.2 = true
  hF : ∀ r, memN r s2.F = true → memN r s'.F = true ∧ r < s2.nr
  hr2 : s2.nr ≤ s'.nr
  hf : Fg s.nx s2.nr fr' fr2
theorem FgtR.ok (hG : ∀ g cs, G g = some cs → plainL cs = true) {s s' s2 : AS} {fr' fr2 : List AV} (h : FgtR s s' s2 fr' fr2) (cx : Cx) (w : World) (c' : Cx) (w' : World) (vs : List Value) (hx : Ext cx w c' w') (hs : St G cx w s) (hs' : St G c' w' s') (hfr : RpL c' w' fr' vs) :
    ∃ c2, Ext cx w c2 w' ∧ St G c2 w' s2 ∧ RpL c2 w' fr2 vs := by
  have hphi : c'.phi.take s.nx = cx.phi := by
    obtain ⟨t, ht⟩ := hx.phi
    rw [← ht, hs.len, List.take_left]
  have hrl : (c'.rows.take s2.nr).length = s2.nr := by
    have := h.hr2
    rw [List.length_take, ← hs'.rlen]; omega
  refine ⟨c'.upto s.nx s2.nr, ⟨?_, ?_, fun r x hr' h => ?_, fun g i v hv => vis_upto (hx.vis g i v hv), hx.below, hx.base, hx.bad, fun g hg => hx.pnew g (List.mem_of_mem_take hg), fun r g lo hi h => hx.rnew r g lo hi (take_get h).1, hx.keep⟩, ?_, h.hf.ok hfr⟩
  · show cx.phi <+: c'.phi.take s.nx
    rw [hphi]
    exact List.prefix_refl _
  · show cx.rows.length ≤ (c'.rows.take s2.nr).length
    rw [hrl, ← hs.rlen]; exact h.hr
  · exact hx.rows r x hr' (take_get h).1
  · refine ⟨?_, by rw [← h.hh, h.hn]; exact dropW_lt hs'.desc, fun i j g h1 h2 => hs'.nodup i j g (take_get h1).1 (take_get h2).1, fun g hg => hs'.low g (List.mem_of_mem_take hg), fun id g b h1 h2 => ?_, ?_, fun r g lo hi h => ?_, fun r hr => ?_, fun g hg => hs'.plow g (List.mem_of_mem_take hg), hs'.blow, fun r r' g lo hi lo' hi' h h' => hs'.rdist r r' g lo hi lo' hi' (take_get h).1 (take_get h').1, fun g cs hg => (hs'.glob g cs hg).upto (under_plainL _ _ (hG g cs hg)), hs'.bsz⟩
    · show s2.nx = (c'.phi.take s.nx).length
      rw [hphi, h.hn, hs.len]
    · have h3 := dropW_look (k := s.nx) hs'.desc (show look id (dropW s.nx s'.h) = some b by rw [h.hh]; exact h2)
      obtain ⟨o, ho, hb⟩ := hs'.box id g b (take_get h1).1 h3
      refine ⟨o, ho, hb.upto ?_⟩
      obtain ⟨e, he, heb⟩ := look_mem h2
      rw [← heb]; exact h.hu e he
    · show s2.nr = (c'.rows.take s2.nr).length
      rw [hrl]
    · obtain ⟨a1, a2, a3, a4⟩ := hs'.row r g lo hi (take_get h).1
      exact ⟨a1, a2, fun hm => a3 (List.mem_of_mem_take hm), a4⟩
    · obtain ⟨h1, h2⟩ := h.hF r hr
      obtain ⟨x, hx'⟩ := hs'.rfree r h1
      exact ⟨x, take_of hx' h2⟩
theorem WL_roundR (hG : ∀ g cs, G g = some cs → plainL cs = true) {c : Code} {fr fr2 : List AV} {s s2 : AS} {Q : AX → List AV → AS → Prop} (h : W P G (XS P G) H0 c fr s (fun e fr' s' => (e = .normal ∧ FgtR s s' s2 fr' fr2) ∨ (e ≠ .normal ∧ Q e fr' s'))) (k : WL P G (XS P G) H0 c fr2 s2 Q) : WL P G (XS P G) H0 c fr s Q := by
  obtain ⟨e, fr', s', hj, h2⟩ := h
  rcases h2 with ⟨rfl, h2⟩ | ⟨he, h2⟩
  · obtain ⟨e3, fr3, s3, h3, h4⟩ := k
    exact ⟨e3, fr3, s3, .loopN (.scope hj (fun _ h => by cases h) (fun cx w c' w' vs hx hs hs' hfr => h2.ok hG cx w c' w' vs hx hs hs' hfr)) h3, h4⟩
  · exact ⟨_, _, _, .loopX hj he, h2⟩
/-- a call that leaves the boxes and the growing slices as they were -/
theorem callR_of_W (hm : P.follows .mixedOrders = true) (hG : ∀ g cs, G g = some cs → plainL cs = true) {f : FuncId} {args : List AV} {s : AS} {v : AV} (h : WC P G (XS P G) H0 f args s (fun r s' => r = .ret v ∧ dropW s.nx s'.h = s.h ∧ s'.F = s.F ∧ s.nr ≤ s'.nr)) (hu : ∀ e ∈ s.h, underB s.nx s.nr e.2 = true) (hF : ∀ r, memN r s.F = true → r < s.nr) (hv : under s.nx s.nr v = true) : Sound P G (.call f args s (.ret v) s) := by
  obtain ⟨r, s', hj, rfl, hh, hF', hr⟩ := h
  have hS := sound (givenS hm) hj
  intro cx w vs hs hargs
  refine (hS cx w vs hs hargs).mono ?_
  rintro e w' ⟨c', hx, hs', u, rfl, hu'⟩
  have fg : FgtR s s' s [v] [v] := ⟨rfl, Nat.le_refl _, hh, hu, (fun r hr => ⟨by rw [hF']; exact hr, hF r hr⟩), hr, .keep hv .nil⟩
  obtain ⟨c2, x2, st2, f2⟩ := fg.ok hG cx w c' w' [u] hx hs hs' (.cons hu' .nil)
  cases f2 with
  | cons f3 _ => exact ⟨c2, x2, st2, u, rfl, f3⟩
theorem call_weak {f : FuncId} {args args2 : List AV} {s s' : AS} {r : CR} (hw : ∀ c w vs, RpL c w args vs → RpL c w args2 vs) (h : Sound P G (.call f args2 s r s')) : Sound P G (.call f args s r s') := fun cx w vs hs ha => h cx w vs hs (hw cx w vs ha)
theorem Rp.lost {c : Cx} {w : World} {o : Own} {n : Nat} {cs : List AV} {v : Value} (h : Rp c w (.sl o n cs) v) : Rp c w (.sl .lost n cs) v := by
  cases h with
  | sl0 _ => exact .sl0 trivial
  | sl1 hn hc ho => exact .sl1 hn hc trivial
theorem uh_nil {n m : Nat} : ∀ e ∈ ([] : List (Nat × ABlk)), underB n m e.2 = true := fun e he => by cases he
theorem uh_cons {n m id : Nat} {cs : List AV} {l : List (Nat × ABlk)} (h : underL n m cs = true) (t : ∀ e ∈ l, underB n m e.2 = true) : ∀ e ∈ (id, ABlk.cells cs) :: l, underB n m e.2 = true := fun e he => by
  rcases List.mem_cons.1 he with rfl | he
  · exact h
  · exact t e he
end
/-- pieces of code -/
def bodyOf (fn : Func) : Code := fn.body.getD .skip
def cBlk : Code → Code
  | .block _ c => c
  | c => c
def cLoop : Code → Code
  | .loop c => c
  | c => c
def stopAt : Nat → Code → List Code → Code × List Code
  | 0, c, ks => (c, ks)
  | n + 1, .seq x y, ks => stopAt n x (y :: ks)
  | n + 1, c, ks => (match hasLoop c with
    | true => (c, ks)
    | false => (match ks with
      | [] => (c, [])
      | k :: ks => stopAt n k ks))
end AI
/- Comparison of structs of numbers. -/
namespace AI
open Go Go.RowKit

theorem pv_bind {P : Program} {α β : Type} (m : Sem α) (f : α → Sem β) : pv P (m >>= f) = (pv P m).bind fun a => pv P (f a) := by
  show pv P (m.bind f) = _
  induction m with
  | pure a => rfl
  | program k ih => exact ih P
  | mark _ k ih => exact ih
  | _ => rfl
theorem pv_pure {P : Program} {α : Type} (a : α) : pv P (pure a : Sem α) = some a := rfl
theorem pv_program {P : Program} : pv P program = some P := rfl
theorem pv_underlying {P : Program} {t : TypeId} {d : TypeDesc} (h : P.underlying t = some d) : pv P (underlying t) = some d := by
  unfold underlying
  rw [pv_bind, pv_program]
  simp only [Option.bind_some, h]
  rfl
theorem pv_ite {P : Program} {α : Type} (c : Prop) [Decidable c] (a b : Sem α) : pv P (if c then a else b) = if c then pv P a else pv P b := by split <;> rfl
theorem pv_equalIn_struct {P : Program} (d : Nat) (t : TypeId) (xs ys : Array Value) (ht : P.underlying t = some (.struct (P.fieldsOf t))) (hp : P.stoodInHeld t = false) :
    pv P (Op.equalIn (d + 1) t (.agg xs) (.agg ys)) = pv P (Op.eqFields d xs ys (P.fieldsOf t).toList) := by
  simp only [Op.equalIn, pv_bind, pv_underlying ht, Option.bind_some, pv_program, hp, Bool.false_eq_true, if_false]
  rw [← Array.forIn_toList]
  generalize (P.fieldsOf t).toList = fs
  clear ht
  induction fs with
  | nil => simp [Op.eqFields, pv_pure]
  | cons f fs ih =>
    simp only [List.forIn_cons, Op.eqFields, pv_bind, pv_ite]
    split
    · generalize pv P (part f.type xs f.offset) = r1
      cases r1 with
      | none => simp
      | some a =>
        simp only [Option.bind_some]
        generalize pv P (part f.type ys f.offset) = r2
        cases r2 with
        | none => simp
        | some b =>
          simp only [Option.bind_some]
          generalize pv P (Op.equalIn d f.type a b) = r3
          cases r3 with
          | none => simp
          | some r =>
            cases r
            · simp [pv_pure]
            · simp only [Option.bind_some, Bool.not_true, Bool.false_eq_true, if_false, pv_pure]
              exact ih
    · simp only [pv_pure, Option.bind_some]
      exact ih
theorem pv_part {P : Program} {t : TypeId} {k : IntKind} (h : P.underlying t = some (.int k)) (cs : Array Value) (off : Nat) {v : Value} (hv : cs[off]? = some v) : pv P (part t cs off) = some v := by
  unfold part isAgg
  simp [pv_bind, pv_underlying h, pv_pure, hv]
theorem pv_equalIn_int {P : Program} (d : Nat) {t : TypeId} {k k' : IntKind} (a b : Int) (h : P.underlying t = some (.int k')) : pv P (Op.equalIn (d + 1) t (.int k a) (.int k b)) = some (a == b) := by
  simp [Op.equalIn, pv_bind, pv_underlying h, pv_pure]
theorem pv_guard {P : Program} (op : BinOp) (t : TypeId) (x y : Operand) (xs ys : Array Value) (hm : P.eqGuardType P.depth t = false) : pv P (eqGuard op t x y (.agg xs) (.agg ys)) = some () := by
  cases op <;> simp [eqGuard, pv_bind, pv_program, hm, pv_pure]
/-- structs of three numbers -/
theorem ne3 {P : Program} {t i : TypeId} {n1 n2 n3 : String} {x y : Operand} {f1 f2 f3 : Field} (hf : (P.fieldsOf t).toList = [f1, f2, f3]) (ht : P.underlying t = some (.struct (P.fieldsOf t))) (hp : P.stoodInHeld t = false) (hm : P.eqGuardType P.depth t = false) (hi : P.underlying i = some (.int .i64))
    (h1 : f1.name = n1 ∧ f1.type = i ∧ f1.offset = 0) (h2 : f2.name = n2 ∧ f2.type = i ∧ f2.offset = 1) (h3 : f3.name = n3 ∧ f3.type = i ∧ f3.offset = 2) (hn : n1 ≠ "_" ∧ n2 ≠ "_" ∧ n3 ≠ "_") (a1 a2 a3 b1 b2 b3 : Int) :
    abin P .neq t x y (.agg [.sc (.int .i64 a1), .sc (.int .i64 a2), .sc (.int .i64 a3)]) (.agg [.sc (.int .i64 b1), .sc (.int .i64 b2), .sc (.int .i64 b3)]) = some (.sc (.bool (!(a1 == b1 && a2 == b2 && a3 == b3)))) := by
  have hv : pv P (do eqGuard .neq t x y (.agg #[.int .i64 a1, .int .i64 a2, .int .i64 a3]) (.agg #[.int .i64 b1, .int .i64 b2, .int .i64 b3]); binOp .neq t (.agg #[.int .i64 a1, .int .i64 a2, .int .i64 a3]) (.agg #[.int .i64 b1, .int .i64 b2, .int .i64 b3])) = some (.bool (!(a1 == b1 && a2 == b2 && a3 == b3))) := by
    rw [pv_bind, pv_guard _ _ _ _ _ _ hm]
    simp only [Option.bind_some, binOp, pv_bind, Op.equal, Op.maxDepth]
    rw [show (10000 : Nat) = 9998 + 1 + 1 from rfl, pv_equalIn_struct _ _ _ _ ht hp, hf]
    simp only [Op.eqFields, h1.1, h2.1, h3.1, hn.1, hn.2.1, hn.2.2, ne_eq, not_false_eq_true, if_true, h1.2.1, h1.2.2, h2.2.1, h2.2.2, h3.2.1, h3.2.2]
    simp only [pv_bind, pv_part (v := .int .i64 a1) hi #[Value.int .i64 a1, .int .i64 a2, .int .i64 a3] 0 rfl, pv_part (v := .int .i64 a2) hi #[Value.int .i64 a1, .int .i64 a2, .int .i64 a3] 1 rfl, pv_part (v := .int .i64 a3) hi #[Value.int .i64 a1, .int .i64 a2, .int .i64 a3] 2 rfl, pv_part (v := .int .i64 b1) hi #[Value.int .i64 b1, .int .i64 b2, .int .i64 b3] 0 rfl, pv_part (v := .int .i64 b2) hi #[Value.int .i64 b1, .int .i64 b2, .int .i64 b3] 1 rfl, pv_part (v := .int .i64 b3) hi #[Value.int .i64 b1, .int .i64 b2, .int .i64 b3] 2 rfl, Option.bind_some, pv_equalIn_int _ _ _ hi, pv_ite, pv_pure]
    cases (a1 == b1) <;> cases (a2 == b2) <;> cases (a3 == b3) <;> rfl
  have ht1 : ∀ c1 c2 c3 : Int, toVal (.agg [.sc (.int .i64 c1), .sc (.int .i64 c2), .sc (.int .i64 c3)]) = some (.agg #[.int .i64 c1, .int .i64 c2, .int .i64 c3]) := fun _ _ _ => rfl
  unfold abin
  simp only [ht1, hv, Option.bind_some]
  rfl
theorem ne3m {P : Program} {t i : TypeId} {n1 n2 n3 : String} {x y : Operand} (hf : (P.fieldsOf t).toList.map (fun f => (f.name, f.type, f.offset)) = [(n1, i, 0), (n2, i, 1), (n3, i, 2)]) (ht : P.underlying t = some (.struct (P.fieldsOf t))) (hp : P.stoodInHeld t = false) (hm : P.eqGuardType P.depth t = false) (hi : P.underlying i = some (.int .i64))
    (hn : n1 ≠ "_" ∧ n2 ≠ "_" ∧ n3 ≠ "_") (a1 a2 a3 b1 b2 b3 : Int) :
    abin P .neq t x y (.agg [.sc (.int .i64 a1), .sc (.int .i64 a2), .sc (.int .i64 a3)]) (.agg [.sc (.int .i64 b1), .sc (.int .i64 b2), .sc (.int .i64 b3)]) = some (.sc (.bool (!(a1 == b1 && a2 == b2 && a3 == b3)))) := by
  match hl : (P.fieldsOf t).toList with
  | [] => rw [hl] at hf; simp at hf
  | [_] => rw [hl] at hf; simp at hf
  | [_, _] => rw [hl] at hf; simp at hf
  | [f1, f2, f3] =>
    rw [hl] at hf
    simp only [List.map_cons, List.map_nil, List.cons.injEq, Prod.mk.injEq, and_true] at hf
    obtain ⟨⟨q1, q2, q3⟩, ⟨r1, r2, r3⟩, z1, z2, z3⟩ := hf
    exact ne3 hl ht hp hm hi ⟨q1, q2, q3⟩ ⟨r1, r2, r3⟩ ⟨z1, z2, z3⟩ hn a1 a2 a3 b1 b2 b3
  | _ :: _ :: _ :: _ :: _ => rw [hl] at hf; simp at hf
theorem append_row {P : Program} {s : AS} {t tx e e2 : TypeId} {i : TypeInfo} {z : Value} {own o2 : Own} {n m : Nat} {cs ns : List AV} (ht : P.underlying t = some (.slice e)) (hi : P.info? e = some i) (hz : i.zero = some z) (h1 : z.cells.size = i.size ∧ 0 < i.size) (htx : P.underlying tx = some (.slice e2)) (hl : cs.length = n * i.size) (hns : ns.length = m * i.size) (ho : ns.all one = true) (hb : (n + m) * i.bytes ≤ 140737488355328) (hb2 : n + m ≤ 9223372036854775807) (hm : m ≠ 0) (hown : okOwn i.size s.F own = true) :
    aappend P s t tx (.sl own n cs) (.sl o2 m ns) = some (.sl (.row s.nr i.size) (n + m) (cs ++ ns), s.row own) := by
  have hs : asrc P s i.size tx (.sl o2 m ns) = some (m, ns) := by
    unfold asrc
    rw [htx]
    simp only [hns, if_true]
  unfold aappend
  simp only [ht, hi, hz, if_pos h1, hs]
  rw [if_pos ⟨hl, ho, hb, hb2⟩, if_neg hm, if_pos hown]
end AI
