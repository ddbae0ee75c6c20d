/- Part of a proof: see the last text. -/
import Derived.Test.YtnijkdknnmgoeaaGreatNdf
namespace AI
open Go Go.RowKit
def sub : Code → List Nat → Code
 | c, [] => c
 | .seq x _, 0 :: l => sub x l
 | .seq _ y, _ :: l => sub y l
 | .cond _ x _, 0 :: l => sub x l
 | .cond _ _ y, _ :: l => sub y l
 | .block _ c, _ :: l => sub c l
 | .loop c, _ :: l => sub c l
 | c, _ => c
def bodyOf (fn : Func) : Code := fn.body.getD .skip
def obv (n : Nat) : AV → Bool
 | .sc _ => true
 | .any => true
 | .ptr id _ => Nat.blt id n
 | .mp id => Nat.blt id n
 | .msl id _ _ => Nat.blt id n
 | _ => false
theorem obv_ok {n m : Nat} {a : AV} (h : obv n a = true) : Fits n m a a := by
 refine .under ?_
 cases a <;> simp only [obv] at h <;> first | rfl | (cases h; done) | exact decide_eq_true (Nat.le_of_ble_eq_true h)
structure FP (n m : Nat) where
 a : AV
 b : AV
 h : Fits n m a b
structure FB (n m : Nat) where
 a : ABlk
 b : ABlk
 h : FitsB n m a b
def fpA {n m : Nat} : List (FP n m) → List AV
 | [] => []
 | p :: l => p.a :: fpA l
def fpB {n m : Nat} : List (FP n m) → List AV
 | [] => []
 | p :: l => p.b :: fpB l
def fbA {n m : Nat} : List (FB n m) → List ABlk
 | [] => []
 | p :: l => p.a :: fbA l
def fbB {n m : Nat} : List (FB n m) → List ABlk
 | [] => []
 | p :: l => p.b :: fbB l
abbrev MR := Option (List AV × List AV)
def mCons (b : AV) : MR → MR
 | some (l, as) => some (b :: l, as)
 | none => none
def mConsP (a b : AV) : MR → MR
 | some (l, as) => some (b :: l, a :: as)
 | none => none
def mKeep (r : List AV → MR) (n : Nat) (a : AV) (bs : List AV) : MR := match obv n a with
 | true => mCons a (r bs)
 | false => none
def mPrf (r : List AV → MR) (a : AV) : List AV → MR
 | b :: bs => mConsP a b (r bs)
 | [] => none
def mDrop (r : List AV → MR) (a : AV) (bs : List AV) : MR := match canDrop a with
 | true => mCons .any (r bs)
 | false => none
def mskF (n : Nat) : List AV → Nat → List Nat → List AV → MR
 | [], _, _, [] => some ([], [])
 | [], _, _, _ :: _ => none
 | a :: l, i, [], bs => mDrop (mskF n l (i + 2) []) a bs
 | a :: l, i, t :: ts, bs => (match Nat.beq t i with
   | true => mKeep (mskF n l (i + 2) ts) n a bs
   | false => (match Nat.beq t (i + 1) with
     | true => mPrf (mskF n l (i + 2) ts) a bs
     | false => mDrop (mskF n l (i + 2) (t :: ts)) a bs))
section
variable {n m : Nat} {r : List AV → MR} {l : List AV} (hr : ∀ (fps : List (FP n m)) l2, r (fpB fps) = some (l2, fpA fps) → FitsL n m l l2) {a : AV} {fps : List (FP n m)} {l2 : List AV}
include hr
theorem mKeep_ok (h : mKeep r n a (fpB fps) = some (l2, fpA fps)) : FitsL n m (a :: l) l2 := by
 unfold mKeep at h
 split at h
 · rename_i ho
   unfold mCons at h
   split at h
   · rename_i l3 as h1
     cases h
     exact .cons (obv_ok ho) (hr fps _ h1)
   · cases h
 · cases h
theorem mPrf_ok (h : mPrf r a (fpB fps) = some (l2, fpA fps)) : FitsL n m (a :: l) l2 := by
 cases fps with
 | nil => cases h
 | cons p fps =>
   simp only [fpB, mPrf] at h
   unfold mConsP at h
   split at h
   · rename_i l3 as h1
     simp only [fpA, Option.some.injEq, Prod.mk.injEq, List.cons.injEq] at h
     obtain ⟨rfl, rfl, rfl⟩ := h
     exact .cons p.h (hr fps _ h1)
   · cases h
theorem mDrop_ok (h : mDrop r a (fpB fps) = some (l2, fpA fps)) : FitsL n m (a :: l) l2 := by
 unfold mDrop at h
 split at h
 · rename_i hd
   unfold mCons at h
   split at h
   · rename_i l3 as h1
     cases h
     exact .cons (.drop hd) (hr fps _ h1)
   · cases h
 · cases h
end
theorem mskF_ok {n m : Nat} : ∀ {l : List AV} {i : Nat} {ts : List Nat} {fps : List (FP n m)} {l2 : List AV}, mskF n l i ts (fpB fps) = some (l2, fpA fps) → FitsL n m l l2 := by
 intro l
 induction l with
 | nil =>
   intro i ts fps l2 h
   cases fps with
   | nil => simp only [fpB, mskF] at h; cases h; exact .nil
   | cons p fps => simp only [fpB, mskF] at h; cases h
 | cons a l ih =>
   intro i ts fps l2 h
   cases ts with
   | nil => simp only [mskF] at h; exact mDrop_ok (fun fps l2 h => ih h) h
   | cons t ts =>
     simp only [mskF] at h
     split at h
     · exact mKeep_ok (fun fps l2 h => ih h) h
     · split at h
       · exact mPrf_ok (fun fps l2 h => ih h) h
       · exact mDrop_ok (fun fps l2 h => ih h) h
abbrev BR := Option (List (Nat × ABlk) × List ABlk)
def bCons (id : Nat) (a b : ABlk) : BR → BR
 | some (l, as) => some ((id, b) :: l, a :: as)
 | none => none
def boxF : List (Nat × ABlk) → List ABlk → BR
 | [], [] => some ([], [])
 | e :: l, b :: bs => bCons e.1 e.2 b (boxF l bs)
 | _, _ => none
theorem boxF_ok {n m : Nat} : ∀ {l : List (Nat × ABlk)} {fbs : List (FB n m)} {l2 : List (Nat × ABlk)}, boxF l (fbB fbs) = some (l2, fbA fbs) → (∀ k, Desc l k → Desc l2 k) ∧ ∀ id b, look id l2 = some b → ∃ b', look id l = some b' ∧ FitsB n m b' b := by
 intro l
 induction l with
 | nil =>
   intro fbs l2 h
   cases fbs with
   | nil => simp only [fbB, boxF] at h; cases h; exact ⟨fun _ _ => trivial, fun id b h => by cases h⟩
   | cons p fbs => simp only [fbB, boxF] at h; cases h
 | cons e l ih =>
   intro fbs l2 h
   cases fbs with
   | nil => simp only [fbB, boxF] at h; cases h
   | cons p fbs =>
     simp only [fbB, boxF] at h
     unfold bCons at h
     split at h
     · rename_i l3 as h1
       simp only [fbA, Option.some.injEq, Prod.mk.injEq, List.cons.injEq] at h
       obtain ⟨rfl, h2, rfl⟩ := h
       obtain ⟨hd, hl⟩ := ih h1
       refine ⟨fun k hk => ⟨hk.1, hd _ hk.2⟩, fun id b hb => ?_⟩
       simp only [look] at hb ⊢
       split at hb
       · cases hb; exact ⟨e.2, rfl, by rw [h2]; exact p.h⟩
       · exact hl id b hb
     · cases h
def filtF (m : Nat) : List (Nat × Nat) → List (Nat × Nat)
 | [] => []
 | x :: l => match Nat.blt x.1 m with
   | true => x :: filtF m l
   | false => filtF m l
theorem filtF_ok {m r n : Nat} {l : List (Nat × Nat)} (h : lookF r (filtF m l) = some n) : lookF r l = some n ∧ r < m := by
 induction l with
 | nil => cases h
 | cons x l ih =>
   simp only [filtF] at h
   split at h
   · rename_i hb
     simp only [lookF] at h ⊢
     split at h
     · rename_i h1
       have := beq_true h1
       subst this
       cases h
       exact ⟨rfl, Nat.le_of_ble_eq_true hb⟩
     · exact ih h
   · rename_i hb
     obtain ⟨h1, h2⟩ := ih h
     refine ⟨?_, h2⟩
     simp only [lookF]
     split
     · rename_i h3
       have := beq_true h3
       subst this
       rw [show Nat.blt x.1 m = true from Nat.ble_eq_true_of_le h2] at hb
       cases hb
     · exact h1
section
variable {P : Program} {G : Glob}
def Frg (G : Glob) (s0 : AS) (fr' : List AV) (s' : AS) (fr2 : List AV) (s2 : AS) : Prop := ∀ (cx : Cx) (w : World) (c' : Cx) (w' : World) (vs : List Value), Ext cx w c' w' → St G cx w s0 → St G c' w' s' → RpL c' w' fr' vs → ∃ c2, Ext cx w c2 w' ∧ St G c2 w' s2 ∧ RpL c2 w' fr2 vs
abbrev RR := Option (List AV × AS × List AV × List ABlk)
def rndF (live : List Nat) (n m : Nat) (fr' : List AV) (s' : AS) (bs : List AV) (cs : List ABlk) : RR :=
 match mskF n fr' 0 live bs with
 | some (fr2, as) => (match boxF (dropW n s'.h) cs with
   | some (h2, cas) => some (fr2, ⟨h2, n, filtF m s'.F, m⟩, as, cas)
   | none => none)
 | none => none
theorem dropW_lt {l : List (Nat × ABlk)} {N n : Nat} (h : Desc l N) : Desc (dropW n l) n := by
 induction l generalizing N with
 | nil => trivial
 | cons e l ih =>
   simp only [dropW]
   split
   · exact ih h.2
   · rename_i hb
     refine ⟨?_, h.2⟩
     have : ¬ n ≤ e.1 := fun hle => by rw [Nat.ble_eq_true_of_le hle] at hb; cases hb
     omega
theorem rndF_ok (hG : ∀ g cs, G g = some cs → plainL cs = true) {live : List Nat} {s0 : AS} {fr' : List AV} {s' : AS} {fps : List (FP s0.nx s0.nr)} {fbs : List (FB s0.nx s0.nr)} {fr2 : List AV} {s2 : AS} (h : rndF live s0.nx s0.nr fr' s' (fpB fps) (fbB fbs) = some (fr2, s2, fpA fps, fbA fbs)) : Frg G s0 fr' s' fr2 s2 := by
 unfold rndF at h
 split at h
 · rename_i f1 as hm
   split at h
   · rename_i h1 cas hb
     simp only [Option.some.injEq, Prod.mk.injEq] at h
     obtain ⟨rfl, rfl, rfl, rfl⟩ := h
     intro cx w c' w' vs hx hs hs' hfr
     obtain ⟨hd, hl⟩ := boxF_ok hb
     refine forgetF (s := s0) (s2 := ⟨h1, s0.nx, filtF s0.nr s'.F, s0.nr⟩) hG rfl rfl (hd _ (dropW_lt hs'.desc)) (fun id b hb => ?_) (fun r n hr => filtF_ok hr) (mskF_ok hm) cx w c' w' vs hx hs hs' hfr
     obtain ⟨b', h3, h4⟩ := hl id b hb
     exact ⟨b', dropW_look hs'.desc h3, h4⟩
   · cases h
 · cases h
def rndQ (P : Program) (G : Glob) (L : Code) (s0 : AS) (Q : AX → List AV → AS → Prop) : AX → List AV → AS → Prop
 | .normal, fr', s' => ∃ fr2 s2, Frg G s0 fr' s' fr2 s2 ∧ WL P G (XS P G) H0 L fr2 s2 Q
 | .exit id, fr', s' => ∃ fr2 s2, Frg G s0 fr' s' fr2 s2 ∧ Q (.exit id) fr2 s2
 | e, fr', s' => Q e fr' s'
theorem WL_rnd {L : Code} {fr : List AV} {s : AS} {Q : AX → List AV → AS → Prop} (h : W P G (XS P G) H0 L fr s (rndQ P G L s Q)) : WL P G (XS P G) H0 L fr s Q := by
 obtain ⟨e, fr', s', hj, h2⟩ := h
 cases e with
 | normal =>
   obtain ⟨fr2, s2, hf, e3, fr3, s3, h3, h4⟩ := h2
   exact ⟨e3, fr3, s3, .loopN (.scope hj (fun _ h => by cases h) (fun cx w c' w' vs hx hs hs' hfr => hf cx w c' w' vs hx hs hs' hfr)) h3, h4⟩
 | exit id =>
   obtain ⟨fr2, s2, hf, h4⟩ := h2
   exact ⟨_, _, _, .loopX (.scope hj (fun _ h => by cases h) (fun cx w c' w' vs hx hs hs' hfr => hf cx w c' w' vs hx hs hs' hfr)) (by simp), h4⟩
 | ret => exact ⟨_, _, _, .loopX hj (by simp), h2⟩
 | pan v => exact ⟨_, _, _, .loopX hj (by simp), h2⟩
def RetOk (P : Program) (fn : Func) (m : Nat) (Q : AX → List AV → AS → Prop) (v : AV) (s2 : AS) : Prop := ∀ fr s, aresults P s fn fr = some v → s.cut m = s2 → Q .ret fr s
def PanOk (m : Nat) (Q : AX → List AV → AS → Prop) (v : AV) (s2 : AS) : Prop := ∀ fr s, s.cut m = s2 → Q (.pan v) fr s
theorem thenK_ret {ks : List KI} {Q : AX → List AV → AS → Prop} {fr : List AV} {s : AS} (h : Q .ret fr s) : thenK P G ks Q .ret fr s := by
 induction ks with
 | nil => exact h
 | cons k ks ih => cases k <;> exact ih
theorem thenK_pan {ks : List KI} {Q : AX → List AV → AS → Prop} {fr : List AV} {s : AS} {v : AV} (h : Q (.pan v) fr s) : thenK P G ks Q (.pan v) fr s := by
 induction ks with
 | nil => exact h
 | cons k ks ih => cases k <;> exact ih
theorem RetOk.body {fn : Func} {m : Nat} {Q : CR → AS → Prop} {v : AV} {s2 : AS} (h : Q (.ret v) s2) : RetOk P fn m (bodyQ P fn m Q) v s2 := fun fr s h1 h2 => ⟨v, h1, by rw [h2]; exact h⟩
theorem PanOk.body {fn : Func} {m : Nat} {Q : CR → AS → Prop} {v : AV} {s2 : AS} (h : Q (.pan v) s2) : PanOk m (bodyQ P fn m Q) v s2 := fun fr s h2 => by show Q (.pan v) (s.cut m); rw [h2]; exact h
theorem RetOk.inner {fn : Func} {m id : Nat} {ks : List KI} {L : Code} {s0 : AS} {Q : AX → List AV → AS → Prop} {v : AV} {s2 : AS} (h : RetOk P fn m Q v s2) : RetOk P fn m (blockQ id (thenK P G ks (rndQ P G L s0 Q))) v s2 := fun fr s h1 h2 => thenK_ret (h fr s h1 h2)
theorem PanOk.inner {m id : Nat} {ks : List KI} {L : Code} {s0 : AS} {Q : AX → List AV → AS → Prop} {v : AV} {s2 : AS} (h : PanOk m Q v s2) : PanOk m (blockQ id (thenK P G ks (rndQ P G L s0 Q))) v s2 := fun fr s h1 => thenK_pan (h fr s h1)
theorem RetOk.outer {fn : Func} {m id : Nat} {ks : List KI} {Q : AX → List AV → AS → Prop} {v : AV} {s2 : AS} (h : RetOk P fn m Q v s2) : RetOk P fn m (blockQ id (thenK P G ks Q)) v s2 := fun fr s h1 h2 => thenK_ret (h fr s h1 h2)
theorem PanOk.outer {m id : Nat} {ks : List KI} {Q : AX → List AV → AS → Prop} {v : AV} {s2 : AS} (h : PanOk m Q v s2) : PanOk m (blockQ id (thenK P G ks Q)) v s2 := fun fr s h1 => thenK_pan (h fr s h1)
theorem RetOk.rnd {fn : Func} {m : Nat} {L : Code} {s0 : AS} {Q : AX → List AV → AS → Prop} {v : AV} {s2 : AS} (h : RetOk P fn m Q v s2) : RetOk P fn m (rndQ P G L s0 Q) v s2 := h
theorem PanOk.rnd {m : Nat} {L : Code} {s0 : AS} {Q : AX → List AV → AS → Prop} {v : AV} {s2 : AS} (h : PanOk m Q v s2) : PanOk m (rndQ P G L s0 Q) v s2 := h
def Runs (P : Program) (G : Glob) (_l : List (PC P G)) (Q : AX → List AV → AS → Prop) (r : HR) (X : Prop) : Prop := ∀ sp cd fr' s', r = some (sp, [], cd, fr', s') → Cds P G cd → SqQ P G Q fr' s' sp → X
theorem runS {c : Code} {fr : List AV} {s : AS} {Q : AX → List AV → AS → Prop} (n : Nat) (l : List (PC P G)) : Runs P G l Q (hRun P G n c [] (pHs l) fr s) (W P G (XS P G) H0 c fr s Q) := fun _ _ _ _ h hc hk => hRun_ok n c [] h hc hk
theorem runX {id : Nat} {ks : List KI} {fr : List AV} {s : AS} {Q : AX → List AV → AS → Prop} (n : Nat) (l : List (PC P G)) : Runs P G l Q (hPop (hRun P G n) ks .normal (pHs l) fr s) (blockQ id (thenK P G ks Q) (.exit id) fr s) := fun _ _ _ _ h hc hk => by
 show thenK P G ks Q (unblock id (.exit id)) fr s
 have : unblock id (.exit id) = .normal := by simp [unblock]
 rw [this]
 exact hPop_ok (hRun_ok n) ks _ h hc hk
def rndR (live : List Nat) (n m : Nat) (bs : List AV) (cs : List ABlk) : HR → Option (AX × List Cd × List AV × AS × List AV × List ABlk)
 | some (.fin e, [], cd, fr, s) => (match rndF live n m fr s bs cs with
   | some (fr2, s2, as, cas) => some (e, cd, fr2, s2, as, cas)
   | none => none)
 | _ => none
theorem go_nx (hG : ∀ g cs, G g = some cs → plainL cs = true) {r : HR} {X : Prop} {L : Code} {s0 : AS} {Q : AX → List AV → AS → Prop} {l : List (PC P G)} (live : List Nat) (fps : List (FP s0.nx s0.nr)) (fbs : List (FB s0.nx s0.nr)) (fr2 : List AV) (s2 : AS) (R : Runs P G l (rndQ P G L s0 Q) r X)
   (h : rndR live s0.nx s0.nr (fpB fps) (fbB fbs) r = some (.normal, pCs l, fr2, s2, fpA fps, fbA fbs)) (k : WL P G (XS P G) H0 L fr2 s2 Q) : X := by
 unfold rndR at h
 split at h
 · rename_i e cd fr' s'
   split at h
   · rename_i h1
     simp only [Option.some.injEq, Prod.mk.injEq] at h
     obtain ⟨rfl, rfl, rfl, rfl, rfl, rfl⟩ := h
     exact R _ _ _ _ rfl (pCs_ok l) ⟨_, _, rndF_ok hG h1, k⟩
   · cases h
 · cases h
theorem go_ex (hG : ∀ g cs, G g = some cs → plainL cs = true) {r : HR} {X : Prop} {L : Code} {s0 : AS} {Q : AX → List AV → AS → Prop} {l : List (PC P G)} (live : List Nat) (fps : List (FP s0.nx s0.nr)) (fbs : List (FB s0.nx s0.nr)) (id : Nat) (fr2 : List AV) (s2 : AS) (R : Runs P G l (rndQ P G L s0 Q) r X)
   (h : rndR live s0.nx s0.nr (fpB fps) (fbB fbs) r = some (.exit id, pCs l, fr2, s2, fpA fps, fbA fbs)) (k : Q (.exit id) fr2 s2) : X := by
 unfold rndR at h
 split at h
 · rename_i e cd fr' s'
   split at h
   · rename_i h1
     simp only [Option.some.injEq, Prod.mk.injEq] at h
     obtain ⟨rfl, rfl, rfl, rfl, rfl, rfl⟩ := h
     exact R _ _ _ _ rfl (pCs_ok l) ⟨_, _, rndF_ok hG h1, k⟩
   · cases h
 · cases h
def dropIt (a : AV) : AV := match canDrop a with
 | true => .any
 | false => a
theorem dropIt_ok {a : AV} {c : Cx} {w : World} {v : Value} (hr : Rp c w a v) : Rp c w (dropIt a) v := by
 unfold dropIt
 split
 · rename_i h; exact .any (canDrop_ok hr h)
 · exact hr
def mskW : List AV → Nat → List Nat → List AV
 | [], _, _ => []
 | a :: l, i, [] => dropIt a :: mskW l (i + 1) []
 | a :: l, i, t :: ts => (match Nat.beq t i with
   | true => a :: mskW l (i + 1) ts
   | false => dropIt a :: mskW l (i + 1) (t :: ts))
theorem mskW_ok {c : Cx} {w : World} : ∀ {l : List AV} {i : Nat} {ts : List Nat} {vs : List Value}, RpL c w l vs → RpL c w (mskW l i ts) vs := by
 intro l
 induction l with
 | nil => intro i ts vs h; cases h; exact .nil
 | cons a l ih =>
   intro i ts vs h
   cases h with
   | cons h1 t =>
     cases ts with
     | nil => exact .cons (dropIt_ok h1) (ih t)
     | cons k ts =>
       simp only [mskW]
       split
       · exact .cons h1 (ih t)
       · exact .cons (dropIt_ok h1) (ih t)
def atR (z : List NZ) (live : List Nat) : HR → Option (List Cd × Nat × Code × List KI × List AV × AS)
 | some (.at id c ks, [], cd, fr, s) => (match nzs z fr s with
   | some (fr2, s2) => some (cd, id, c, ks, mskW fr2 0 live, s2)
   | none => none)
 | _ => none
theorem go_at {r : HR} {X : Prop} {Q : AX → List AV → AS → Prop} {l : List (PC P G)} (z : List NZ) (live : List Nat) (id : Nat) (L : Code) (ks2 : List KI) (fr2 : List AV) (s2 : AS) (R : Runs P G l Q r X)
   (h : atR z live r = some (pCs l, id, L, ks2, fr2, s2)) (k : WL P G (XS P G) H0 L fr2 s2 (blockQ id (thenK P G ks2 Q))) : X := by
 unfold atR at h
 split at h
 · rename_i id' c' ks' cd fr' s'
   split at h
   · rename_i fr3 s3 hz
     simp only [Option.some.injEq, Prod.mk.injEq] at h
     obtain ⟨rfl, rfl, rfl, rfl, rfl, rfl⟩ := h
     refine R _ _ _ _ rfl (pCs_ok l) ?_
     obtain ⟨e3, fr4, s4, h3, h4⟩ := k
     refine ⟨e3, fr4, s4, .weakL (fun cx w vs hs hr => ?_) h3, h4⟩
     obtain ⟨c2, x2, st2, r2⟩ := nzs_ok hz cx w vs hs hr
     exact ⟨c2, x2, st2, mskW_ok r2⟩
   · cases h
 · cases h
inductive Lp (γ δ ρ : Type) where
 | nx (x : γ)
 | ex (x : δ)
 | rt (r : ρ)
section loops
variable {α γ δ ρ : Type}
def foldK (k : γ → Option (δ ⊕ ρ)) : Lp γ δ ρ → Option (δ ⊕ ρ)
 | .nx x => k x
 | .ex d => some (.inl d)
 | .rt r => some (.inr r)
def foldL (body : Nat → α → γ → Option (Lp γ δ ρ)) (done : γ → δ) : List α → Nat → γ → Option (δ ⊕ ρ)
 | [], _, x => some (.inl (done x))
 | y :: l, i, x => (body i y x).bind (foldK (foldL body done l (i + 1)))
def lim {β : Type} (n : Nat) (x : Option β) : Option β := if n ≤ 9223372036854775807 then x else none
theorem limE {β : Type} {n : Nat} {x : Option β} {r : β} (h : lim n x = some r) : n ≤ 9223372036854775807 ∧ x = some r := by
 unfold lim at h
 split at h
 · rename_i h1; exact ⟨h1, h⟩
 · cases h
theorem cndE {β : Type} {b : Bool} {t f : Option β} {r : β} (h : cond b t f = some r) : (b = true ∧ t = some r) ∨ (b = false ∧ f = some r) := by
 cases b
 · exact .inr ⟨rfl, h⟩
 · exact .inl ⟨rfl, h⟩
theorem bndE {β κ : Type} {m : Option κ} {k : κ → Option β} {r : β} (h : m.bind k = some r) : ∃ y, m = some y ∧ k y = some r := by
 cases m with
 | none => cases h
 | some y => exact ⟨y, rfl, h⟩
def LQ (Qx : δ → Prop) (Qr : ρ → Prop) : δ ⊕ ρ → Prop
 | .inl x => Qx x
 | .inr r => Qr r
def RQ (Qn : γ → Prop) (Qx : δ → Prop) (Qr : ρ → Prop) : Lp γ δ ρ → Prop
 | .nx x => Qn x
 | .ex x => Qx x
 | .rt r => Qr r
theorem WL_fold {J : Type} {L : Code} {Q : AX → List AV → AS → Prop} {body : Nat → α → γ → Option (Lp γ δ ρ)} {done : γ → δ} (l : List α) (F : Nat → γ → J → List AV) (S : Nat → γ → J → AS) (Ok : J → Prop) (Qx : δ → Prop) (Qr : ρ → Prop)
   (hz : ∀ i x j, Ok j → l.length ≤ i → Qx (done x) → WL P G (XS P G) H0 L (F i x j) (S i x j) Q)
   (hs : ∀ i y x j r, Ok j → l[i]? = some y → i < l.length → body i y x = some r → RQ (fun x' => ∀ j', Ok j' → WL P G (XS P G) H0 L (F (i + 1) x' j') (S (i + 1) x' j') Q) Qx Qr r → WL P G (XS P G) H0 L (F i x j) (S i x j) Q) :
   ∀ {x : γ} {res : δ ⊕ ρ} (i0 : Nat), foldL body done (l.drop i0) i0 x = some res → LQ Qx Qr res → ∀ j, Ok j → WL P G (XS P G) H0 L (F i0 x j) (S i0 x j) Q := by
 have key : ∀ (k : List α) (i : Nat) (x : γ) (res : δ ⊕ ρ), l.drop i = k → foldL body done k i x = some res → LQ Qx Qr res → ∀ j, Ok j → WL P G (XS P G) H0 L (F i x j) (S i x j) Q := by
   intro k
   induction k with
   | nil =>
     intro i x res hd h hq j hj
     simp only [foldL, Option.some.injEq] at h
     subst h
     exact hz i x j hj (List.drop_eq_nil_iff.1 hd) hq
   | cons y k ih =>
     intro i x res hd h hq j hj
     have hi : i < l.length := by
       rcases Nat.lt_or_ge i l.length with h1 | h1
       · exact h1
       · rw [List.drop_eq_nil_of_le h1] at hd; cases hd
     have hy : l[i]? = some y := by rw [← List.head?_drop, hd]; rfl
     have hd2 : l.drop (i + 1) = k := by rw [← List.tail_drop, hd]; rfl
     obtain ⟨r, hb, h⟩ := bndE h
     refine hs i y x j r hj hy hi hb ?_
     cases r with
     | nx x' => exact fun j' hj' => ih (i + 1) x' res hd2 h hq j' hj'
     | ex d => simp only [foldK, Option.some.injEq] at h; subst h; exact hq
     | rt v => simp only [foldK, Option.some.injEq] at h; subst h; exact hq
 intro x res i0 h hq j hj
 exact key _ i0 x res rfl h hq j hj
end loops
end
end AI
