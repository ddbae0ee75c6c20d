/- Part of a proof: see the last text. -/
import Derived.Test.YtkfplcngmiljaaaGreatDoorUlf
set_option linter.unusedVariables false
set_option linter.unusedSimpArgs false
namespace AI
open Go Go.RowKit
abbrev HS := Option (List Hn × List Cd × List AV × AS)
def hNext (cd : List Cd) : HS → HS
 | some (hs, cd', fr, s) => some (hs, cd ++ cd', fr, s)
 | none => none
abbrev HC := Option (AX × List Hn × List Cd × List AV × AS)
def hThen (cd : List Cd) : HC → HC
 | some (e, hs, cd', fr, s) => some (e, hs, cd ++ cd', fr, s)
 | none => none
def hPan (P : Program) (G : Glob) (ops : Array Oper) (fr : List AV) (s : AS) (o : Oper) : List Hn → HO
 | .p v s1 :: hs => (match awanted ops fr o with
   | true => (match aopF P G fr s o with
     | some (.ent f args) => some (v, s1, hs, [.callP f args s v s1])
     | some (.pan v') => some (v', s, hs, [])
     | _ => none)
   | false => none)
 | .q v pre tp ups tu :: hs => (match awanted ops fr o with
   | true => (match aopF P G fr s o with
     | some (.ent f args) => some (v, (s.upds ups).grows tu, hs, [.callU f args (.pan v) pre tp ups tu, .eqx (getsB s pre) (wantB pre) (getsF s.F tp) (wantF tp)])
     | _ => none)
   | false => none)
 | _ => none
def hOps (P : Program) (G : Glob) (ops : Array Oper) : List Oper → List Hn → List AV → AS → HC
 | [], hs, fr, s => some (.normal, hs, [], fr, s)
 | o :: l, hs, fr, s => (match hPan P G ops fr s o hs with
   | some (v, s1, hs1, cd) => some (.pan v, hs1, cd, fr, s1)
   | none => (match hOp P G ops fr s o hs with
     | some (v, s1, hs1, cd) => hThen cd (hOps P G ops l hs1 (aput fr o.dst v) s1)
     | none => none))
def hOpsC (P : Program) (G : Glob) (ops : Array Oper) : List Oper → List Hn → List AV → AS → HS
 | [], hs, fr, s => some (hs, [], fr, s)
 | o :: l, hs, fr, s => (match hOpC P G ops fr s o hs with
   | some (v, s1, hs1, cd) => hNext cd (hOpsC P G ops l hs1 (aput fr o.dst v) s1)
   | none => none)
def steady (op : Op) : Bool := match quiet op with
 | true => true
 | false => (match op with
   | .call cl => (match cl.callee with | .value _ => true | _ => false)
   | _ => false)
def steadyL : List Oper → Bool
 | [] => true
 | o :: l => (match steady o.op with | true => steadyL l | false => false)
def hFin : HS → HC
 | some (hs, cd, fr, s) => some (.normal, hs, cd, fr, s)
 | none => none
def hFar (P : Program) (G : Glob) (ops : Array Oper) (hs : List Hn) (fr : List AV) (s : AS) : HC := match rsv P ops.toList with
 | some r => (match hTr P G ops ops.toList s.nx hs fr (s.hold r) with
   | some (hs', cd, t, fr', s') => (match indepL G ops s.nx ops.toList t with
     | true => (match stable1 P ops t s' s.nx r with
       | true => some (.normal, hs', cd, fr', s')
       | false => none)
     | false => none)
   | none => none)
 | none => none
def hLastR (P : Program) (G : Glob) (ops : Array Oper) (c : Nat) (hs : List Hn) (fr : List AV) (s : AS) : HC := match Nat.blt c ops.size with
 | true => (match lastL (masks ops.toList []) c ops.toList 0 with
   | true => (match hTrL P G ops c ops.toList 0 hs fr s with
     | some (hs', cd, _, fr', s') => some (.normal, hs', cd, fr', s')
     | none => none)
   | false => none)
 | false => none
def hAllR (P : Program) (G : Glob) (ops : Array Oper) (hs : List Hn) (fr : List AV) (s : AS) : HC := match hTrA P G ops ops.toList hs fr s with
 | some (hs', cd, t, Ts, fr', s') => (match rdsOk G ops (masks ops.toList []) Ts ops.toList t 0 with
   | true => some (.normal, hs', cd, fr', s')
   | false => none)
 | none => none
def hDraw (P : Program) (G : Glob) (ops : Array Oper) (fr : List AV) (s : AS) : List Hn → HC
 | .z c :: hs => hLastR P G ops c hs fr s
 | .za :: hs => hAllR P G ops hs fr s
 | hs => (match steadyL ops.toList with
   | true => hFin (hOpsC P G ops ops.toList hs fr s)
   | false => hFar P G ops hs fr s)
def hReg (P : Program) (G : Glob) (ops : Array Oper) (d : Bool) (hs : List Hn) (fr : List AV) (s : AS) : HC := match d with
 | false => hOps P G ops ops.toList hs fr s
 | true => (match ordOk ops with
   | true => hDraw P G ops fr s hs
   | false => none)
def hCode (P : Program) (G : Glob) : Code → List Hn → List AV → AS → HC
 | .skip, hs, fr, s => some (.normal, hs, [], fr, s)
 | .exit id, hs, fr, s => some (.exit id, hs, [], fr, s)
 | .ret, hs, fr, s => some (.ret, hs, [], fr, s)
 | .seq x y, hs, fr, s => (match hCode P G x hs fr s with
   | some (.normal, hs1, cd, fr1, s1) => hThen cd (hCode P G y hs1 fr1 s1)
   | r => r)
 | .cond q x y, hs, fr, s => (match aevalF G fr q with
   | some (.sc (.bool true)) => hCode P G x hs fr s
   | some (.sc (.bool false)) => hCode P G y hs fr s
   | _ => none)
 | .block id c, hs, fr, s => (match hCode P G c hs fr s with
   | some (e, hs1, cd, fr1, s1) => some (unblock id e, hs1, cd, fr1, s1)
   | none => none)
 | .region _ ops d, hs, fr, s => (match hs with
   | .n l :: hs => (match nzs l fr s with
     | some (fr2, s2) => hReg P G ops d hs fr2 s2
     | none => none)
   | hs => hReg P G ops d hs fr s)
 | _, _, _, _ => none
section
variable {P : Program} {G : Glob} {ops : Array Oper}
theorem hPan_ok {fr : List AV} {s s1 : AS} {o : Oper} {hs hs' : List Hn} {v : AV} {cd : List Cd} (h : hPan P G ops fr s o hs = some (v, s1, hs', cd)) (hc : Cds P G cd) : J P G (XS P G) H0 (.op ops o fr s (.pan v) s1) := by
 unfold hPan at h
 split at h
 · rw [aopF_eq] at h
   split at h
   · rename_i hw
     split at h
     · rename_i h1
       cases h
       exact .opCall hw h1 (.ext hc.1)
     · rename_i h1
       cases h
       exact .opPan hw h1
     · cases h
   · cases h
 · rw [aopF_eq] at h
   split at h
   · rename_i hw
     split at h
     · rename_i h1
       cases h
       exact .opCall hw h1 (.ext (hc.1 s hc.2.1.1 hc.2.1.2))
     · cases h
   · cases h
 · cases h
theorem hOps_ok {l : List Oper} {k : Nat} (hk : l = ops.toList.drop k) {hs hs' : List Hn} {fr fr' : List AV} {s s' : AS} {e : AX} {cd : List Cd} (h : hOps P G ops l hs fr s = some (e, hs', cd, fr', s')) (hc : Cds P G cd) : J P G (XS P G) H0 (.ops ops (List.range' k l.length) fr s e fr' s') := by
 induction l generalizing k hs fr s cd with
 | nil => simp only [hOps] at h; cases h; exact .opsNil
 | cons o l ih =>
   obtain ⟨k1, k2⟩ := drop_cons hk
   simp only [hOps] at h
   split at h
   · rename_i v s1 hs1 cd1 h1
     cases h
     rw [List.length_cons, List.range'_succ]
     exact .opsPan (by rw [← Array.getElem?_toList]; exact k1) (hPan_ok h1 hc)
   · split at h
     · rename_i v s1 hs1 cd1 h1
       unfold hThen at h
       split at h
       · rename_i e2 hs2 cd2 fr2 s2 h2
         cases h
         obtain ⟨c1, c2⟩ := hc.app
         rw [List.length_cons, List.range'_succ]
         exact .opsCons (by rw [← Array.getElem?_toList]; exact k1) (hOp_ok h1 c1) (ih k2 h2 c2)
       · cases h
     · cases h
theorem hOps_tr {l : List Oper} {q : Nat} (hst : steadyL l = true) {hs hs' : List Hn} {fr fr' : List AV} {s s' : AS} {cd : List Cd} (h : hOpsC P G ops l hs fr s = some (hs', cd, fr', s')) (hc : Cds P G cd) : s' = s ∧ ∃ t, TrOk P G (XS P G) H0 ops q l fr s t fr' s ∧ ∀ x ∈ t, x.2.1 = s := by
 induction l generalizing hs fr cd s with
 | nil => simp only [hOpsC] at h; cases h; exact ⟨rfl, [], .nil, fun x hx => by cases hx⟩
 | cons o l ih =>
   simp only [steadyL] at hst
   split at hst
   · rename_i hso
     simp only [hOpsC] at h
     split at h
     · rename_i v s1 hs1 cd1 h1
       unfold hNext at h
       split at h
       · rename_i hs2 cd2 fr2 s2 h2
         cases h
         obtain ⟨c1, c2⟩ := hc.app
         obtain ⟨h1, hA⟩ := hOpC_ok h1
         have hj := hOp_ok h1 c1
         have hna : isAlloc o.op = false := by
           cases ha : isAlloc o.op with
           | false => rfl
           | true => obtain ⟨e, he⟩ := isAlloc_ok ha; rw [he] at hso; simp [steady, quiet] at hso
         have hs1 : s1 = s := by
           cases hq : quiet o.op with
           | true => exact (quiet_inv hq hj).1
           | false =>
             unfold steady at hso
             rw [hq] at hso
             simp only at hso
             split at hso
             · rename_i cl hop
               split at hso
               · rename_i f hcl
                 unfold hOp at h1
                 split at h1
                 · unfold hDo at h1
                   rw [hop] at h1
                   simp only [hcl] at h1
                   unfold hCall at h1
                   split at h1
                   · split at h1
                     · cases h1; rfl
                     · cases h1
                   · have := hA (by rw [hop]; simp [isVal, hcl])
                     simp [isA] at this
                   · have := hA (by rw [hop]; simp [isVal, hcl])
                     simp [isA] at this
                   · have := hA (by rw [hop]; simp [isVal, hcl])
                     simp [isA] at this
                   · cases h1
                 · cases h1; rfl
               · cases hso
             · cases hso
         subst hs1
         obtain ⟨e, t, ht, hall⟩ := ih hst h2 c2
         subst e
         exact ⟨rfl, _, .cons hna hj ht, fun x hx => by
           rcases List.mem_cons.1 hx with rfl | hx
           · rfl
           · exact hall x hx⟩
       · cases h
     · cases h
   · cases hst
theorem steady_not_alloc {l : List Oper} (hst : steadyL l = true) {i : Nat} {o : Oper} (ho : l[i]? = some o) : steady o.op = true := by
 induction l generalizing i with
 | nil => simp at ho
 | cons x l ih =>
   simp only [steadyL] at hst
   split at hst
   · rename_i hso
     cases i with
     | zero => simp at ho; subst ho; exact hso
     | succ i => exact ih hst (by simpa using ho)
   · cases hst
theorem draw_const {X : Exts} {H : Hook} {id : Nat} {fr fr' : List AV} {s : AS} {t : List (List AV × AS × AV)} (hord : ordOk ops = true) (hst : steadyL ops.toList = true) (h : TrOk P G X H ops s.nx ops.toList fr s t fr' s) (hall : ∀ x ∈ t, x.2.1 = s) : J P G X H (.code (.region id ops true) fr s .normal fr' s) := by
 have hlen : t.length = ops.size := by rw [h.len, Array.length_toList]
 obtain ⟨h0, hat⟩ := h.at
 have hsa : ∀ i, stAt t s i = s := by
   intro i
   unfold stAt
   split
   · rename_i x hx; exact hall x (List.mem_of_getElem? hx)
   · rfl
 have hdst : ∀ i o, ops[i]? = some o → dstOf ops i = o.dst := fun i o ho => by unfold dstOf; rw [ho]; rfl
 obtain ⟨hfin, hfrs⟩ := h.frames (dstOf ops) (vlAt t) fr 0 rfl (fun i o ho => by rw [Nat.zero_add]; exact hdst i o (by rw [← Array.getElem?_toList]; exact ho)) (fun i => .inl (by rw [Nat.zero_add]))
 rw [Nat.zero_add, Array.length_toList] at hfin
 have hna : ∀ (i : Nat) (o : Oper), ops[i]? = some o → isAlloc o.op = false := by
   intro i o ho
   have := steady_not_alloc hst (toList_get ho)
   cases ha : isAlloc o.op with
   | false => rfl
   | true => obtain ⟨e, he⟩ := isAlloc_ok ha; rw [he] at this; simp [steady, quiet] at this
 have hj : ∀ i o, ops[i]? = some o → J P G X H (.op ops o (frX fr (dstOf ops) (vlAt t) (fun _ => true) i) s (.ret (vlAt t i)) s) := by
   intro i o ho
   obtain ⟨fi, h1, h2⟩ := hat i o (toList_get ho)
   have := hfrs i _ h1
   simp only [Nat.zero_add] at this
   rcases h2 with ⟨_, h2⟩ | ⟨h2, _⟩
   · rw [← this]
     rw [hsa, hsa] at h2
     exact h2
   · rw [hna i o ho] at h2; cases h2
 have key := J.draw (P := P) (G := G) (X := X) (H := H) (id := id) (f0 := fr) (s0 := s) [] (vlAt t) (fun _ => s) rfl hord (fun i o ho _ => hj i o ho) (fun i o ho hq => ⟨rfl, by
   obtain ⟨_, h2⟩ := quiet_inv hq (hj i o ho)
   rcases h2 with h2 | ⟨hw, h2⟩
   · exact .inl h2
   · exact .inr ⟨hw, fun k _ _ => h2⟩⟩) (fun i o e ho he => by have := hna i o ho; rw [he] at this; cases this)
 rw [← hfin] at key
 exact key
theorem hReg_ok {ops : Array Oper} {id : Nat} {d : Bool} {hs hs' : List Hn} {fr fr' : List AV} {s s' : AS} {e : AX} {cd : List Cd} (h : hReg P G ops d hs fr s = some (e, hs', cd, fr', s')) (hc : Cds P G cd) : J P G (XS P G) H0 (.code (.region id ops d) fr s e fr' s') := by
 unfold hReg at h
 cases d with
 | false =>
   simp only at h
   have := hOps_ok (ops := ops) (k := 0) (by simp) h hc
   refine .region ?_
   rw [Array.length_toList] at this
   rw [List.range_eq_range']
   exact this
 | true =>
   simp only at h
   split at h
   · rename_i hord
     unfold hDraw at h
     split at h
     · unfold hLastR at h
       split at h
       · rename_i hcs
         split at h
         · rename_i hl
           split at h
           · rename_i heq
             cases h
             exact draw_last hord hcs hl heq hc
           · cases h
         · cases h
       · cases h
     · unfold hAllR at h
       split at h
       · rename_i heq
         split at h
         · rename_i hrd
           cases h
           exact draw_all hord heq hrd hc
         · cases h
       · cases h
     split at h
     · rename_i hst
       unfold hFin at h
       split at h
       · rename_i h1
         cases h
         obtain ⟨e, t, ht, hall⟩ := hOps_tr (q := s.nx) hst h1 hc
         subst e
         exact draw_const hord hst ht hall
       · cases h
     · unfold hFar at h
       split at h
       · rename_i r hr
         split at h
         · rename_i hs1 cd1 t fr1 s1 htr
           split at h
           · rename_i hi
             split at h
             · rename_i hst1
               cases h
               exact draw_far hord hr htr hc hi hst1
             · cases h
           · cases h
         · cases h
       · cases h
   · cases h
theorem hCode_ok (c : Code) {hs hs' : List Hn} {fr fr' : List AV} {s s' : AS} {e : AX} {cd : List Cd} (h : hCode P G c hs fr s = some (e, hs', cd, fr', s')) (hc : Cds P G cd) : J P G (XS P G) H0 (.code c fr s e fr' s') := by
 induction c generalizing hs hs' fr fr' s s' e cd with
 | skip => simp only [hCode] at h; cases h; exact .skip
 | exit id => simp only [hCode] at h; cases h; exact .exit
 | ret => simp only [hCode] at h; cases h; exact .ret
 | seq x y ihx ihy =>
   simp only [hCode] at h
   cases hx : hCode P G x hs fr s with
   | none => rw [hx] at h; cases h
   | some r =>
     obtain ⟨e1, hs1, cd1, fr1, s1⟩ := r
     rw [hx] at h
     cases e1 with
     | normal =>
       simp only at h
       unfold hThen at h
       split at h
       · rename_i e2 hs2 cd2 fr2 s2 h2
         cases h
         obtain ⟨c1, c2⟩ := hc.app
         exact .seq (ihx hx c1) (ihy h2 c2)
       · cases h
     | exit id => simp only at h; cases h; exact .seqX (ihx hx hc) (by simp)
     | ret => simp only at h; cases h; exact .seqX (ihx hx hc) (by simp)
     | pan v => simp only at h; cases h; exact .seqX (ihx hx hc) (by simp)
 | cond q x y ihx ihy =>
   simp only [hCode, aevalF_eq] at h
   split at h
   · rename_i hq; exact .cond hq (ihx h hc)
   · rename_i hq; exact .cond hq (ihy h hc)
   · cases h
 | block id c ih =>
   simp only [hCode] at h
   split at h
   · rename_i h1; cases h; exact .block (ih h1 hc)
   · cases h
 | region id ops d =>
   simp only [hCode] at h
   split at h
   · split at h
     · rename_i hz
       exact .weak (fun cx w vs h1 h2 => nzs_ok hz cx w vs h1 h2) (hReg_ok h hc)
     · cases h
   · exact hReg_ok h hc
 | _ => simp only [hCode] at h; cases h
def hasLoop : Code → Bool
 | .loop _ => true
 | .seq x y => hasLoop x || hasLoop y
 | .cond _ x y => hasLoop x || hasLoop y
 | .block _ c => hasLoop c
 | _ => false
abbrev HP := Option (Code × List Hn × List Cd × List AV × AS)
end
end AI
namespace AI
open Go Go.RowKit
structure PC (P : Program) (G : Glob) where
 hn : Hn
 cd : List Cd
 ok : Cds P G cd
def pHs {P : Program} {G : Glob} : List (PC P G) → List Hn
 | [] => []
 | p :: l => p.hn :: pHs l
def pCs {P : Program} {G : Glob} : List (PC P G) → List Cd
 | [] => []
 | p :: l => p.cd ++ pCs l
theorem Cds.join {P : Program} {G : Glob} {l m : List Cd} (h : Cds P G l) (k : Cds P G m) : Cds P G (l ++ m) := by
 induction l with
 | nil => exact k
 | cons c l ih => exact ⟨h.1, ih h.2⟩
theorem pCs_ok {P : Program} {G : Glob} (l : List (PC P G)) : Cds P G (pCs l) := by
 induction l with
 | nil => trivial
 | cons p l ih => exact p.ok.join ih
inductive KI where
 | code (c : Code)
 | endb (id : Nat)
def thenK (P : Program) (G : Glob) : List KI → (AX → List AV → AS → Prop) → AX → List AV → AS → Prop
 | [], Q => Q
 | .code k :: ks, Q => thenQ P G (XS P G) H0 k (thenK P G ks Q)
 | .endb id :: ks, Q => blockQ id (thenK P G ks Q)
inductive Sq where
 | at (id : Nat) (c : Code) (ks : List KI)
 | fin (e : AX)
abbrev HR := Option (Sq × List Hn × List Cd × List AV × AS)
def hMoreR (cd : List Cd) : HR → HR
 | some (c, hs, cd', fr, s) => some (c, hs, cd ++ cd', fr, s)
 | none => none
def hPop (r : Code → List KI → List Hn → List AV → AS → HR) : List KI → AX → List Hn → List AV → AS → HR
 | [], e, hs, fr, s => some (.fin e, hs, [], fr, s)
 | .code k :: ks, .normal, hs, fr, s => r k ks hs fr s
 | .code _ :: ks, e, hs, fr, s => hPop r ks e hs fr s
 | .endb id :: ks, .exit id', hs, fr, s => (match Nat.beq id' id with
   | true => hPop r ks .normal hs fr s
   | false => hPop r ks (.exit id') hs fr s)
 | .endb _ :: ks, e, hs, fr, s => hPop r ks e hs fr s
def hRun (P : Program) (G : Glob) : Nat → Code → List KI → List Hn → List AV → AS → HR
 | 0, _, _, _, _, _ => none
 | n + 1, c, ks, hs, fr, s => (match hasLoop c with
   | false => (match hCode P G c hs fr s with
     | some (e, hs1, cd, fr1, s1) => hMoreR cd (hPop (hRun P G n) ks e hs1 fr1 s1)
     | none => none)
   | true => (match c with
     | .seq x y => hRun P G n x (.code y :: ks) hs fr s
     | .block id (.loop c) => some (.at id c ks, hs, [], fr, s)
     | .block id c => hRun P G n c (.endb id :: ks) hs fr s
     | .cond q x y => (match aevalF G fr q with
       | some (.sc (.bool true)) => hRun P G n x ks hs fr s
       | some (.sc (.bool false)) => hRun P G n y ks hs fr s
       | _ => none)
     | _ => none))
section
variable {P : Program} {G : Glob}
def SqQ (P : Program) (G : Glob) (Q : AX → List AV → AS → Prop) (fr : List AV) (s : AS) : Sq → Prop
 | .at id c ks => WL P G (XS P G) H0 c fr s (blockQ id (thenK P G ks Q))
 | .fin e => Q e fr s
theorem thenK_code_not {k : Code} {ks : List KI} {Q : AX → List AV → AS → Prop} {e : AX} {fr : List AV} {s : AS} (he : e ≠ .normal) (h : thenK P G ks Q e fr s) : thenK P G (.code k :: ks) Q e fr s := by
 cases e with
 | normal => exact absurd rfl he
 | exit id => exact h
 | ret => exact h
 | pan v => exact h
theorem hPop_ok {r : Code → List KI → List Hn → List AV → AS → HR} {Q : AX → List AV → AS → Prop}
   (hr : ∀ (c : Code) (ks : List KI) {sp : Sq} {hs hs' : List Hn} {fr fr' : List AV} {s s' : AS} {cd : List Cd}, r c ks hs fr s = some (sp, hs', cd, fr', s') → Cds P G cd → SqQ P G Q fr' s' sp → W P G (XS P G) H0 c fr s (thenK P G ks Q)) :
   ∀ (ks : List KI) (e : AX) {sp : Sq} {hs hs' : List Hn} {fr fr' : List AV} {s s' : AS} {cd : List Cd}, hPop r ks e hs fr s = some (sp, hs', cd, fr', s') → Cds P G cd → SqQ P G Q fr' s' sp → thenK P G ks Q e fr s := by
 intro ks
 induction ks with
 | nil => intro e sp hs hs' fr fr' s s' cd h hc hk; simp only [hPop] at h; cases h; exact hk
 | cons k ks ih =>
   intro e sp hs hs' fr fr' s s' cd h hc hk
   cases k with
   | code c =>
     cases e with
     | normal => simp only [hPop] at h; exact hr c ks h hc hk
     | exit id => simp only [hPop] at h; exact thenK_code_not (by simp) (ih _ h hc hk)
     | ret => simp only [hPop] at h; exact thenK_code_not (by simp) (ih _ h hc hk)
     | pan v => simp only [hPop] at h; exact thenK_code_not (by simp) (ih _ h hc hk)
   | endb id =>
     show thenK P G ks Q (unblock id e) fr s
     cases e with
     | normal => simp only [hPop] at h; exact ih _ h hc hk
     | ret => simp only [hPop] at h; exact ih _ h hc hk
     | pan v => simp only [hPop] at h; exact ih _ h hc hk
     | exit id' =>
       simp only [hPop] at h
       split at h
       · rename_i hb
         have := beq_true hb
         subst this
         have e1 : unblock id' (.exit id') = .normal := by simp [unblock]
         rw [e1]
         exact ih _ h hc hk
       · rename_i hb
         have := beq_false hb
         have e1 : unblock id (.exit id') = .exit id' := by simp [unblock, this]
         rw [e1]
         exact ih _ h hc hk
theorem hRun_ok {Q : AX → List AV → AS → Prop} : ∀ (n : Nat) (c : Code) (ks : List KI) {sp : Sq} {hs hs' : List Hn} {fr fr' : List AV} {s s' : AS} {cd : List Cd}, hRun P G n c ks hs fr s = some (sp, hs', cd, fr', s') → Cds P G cd → SqQ P G Q fr' s' sp → W P G (XS P G) H0 c fr s (thenK P G ks Q) := by
 intro n
 induction n with
 | zero => intro c ks sp hs hs' fr fr' s s' cd h; simp only [hRun] at h; cases h
 | succ n ih =>
   intro c ks sp hs hs' fr fr' s s' cd h hc hk
   simp only [hRun] at h
   split at h
   · split at h
     · rename_i e hs1 cd1 fr1 s1 h1
       unfold hMoreR at h
       split at h
       · rename_i h2
         cases h
         obtain ⟨c1, c2⟩ := hc.app
         exact ⟨_, _, _, hCode_ok c h1 c1, hPop_ok ih ks e h2 c2 hk⟩
       · cases h
     · cases h
   · split at h
     · exact W_seq (ih _ _ h hc hk)
     · cases h
       exact W_block (W_loop hk)
     · exact W_block (ih _ _ h hc hk)
     · rw [aevalF_eq] at h
       split at h
       · rename_i hq; exact W_condT hq (ih _ _ h hc hk)
       · rename_i hq; exact W_condF hq (ih _ _ h hc hk)
       · cases h
     · cases h
end
end AI
namespace AI
open Go Go.RowKit
def sub : Code → List Nat → Code
 | c, [] => c
 | .seq x _, 0 :: l => sub x l
 | .seq _ y, _ :: l => sub y l
 | .cond _ x _, 0 :: l => sub x l
 | .cond _ _ y, _ :: l => sub y l
 | .block _ c, _ :: l => sub c l
 | .loop c, _ :: l => sub c l
 | c, _ => c
def bodyOf (fn : Func) : Code := fn.body.getD .skip
def obv (n : Nat) : AV → Bool
 | .sc _ => true
 | .any => true
 | .ptr id _ => Nat.blt id n
 | .mp id => Nat.blt id n
 | .msl id _ _ => Nat.blt id n
 | _ => false
theorem obv_ok {n m : Nat} {a : AV} (h : obv n a = true) : Fits n m a a := by
 refine .under ?_
 cases a <;> simp only [obv] at h <;> first | rfl | (cases h; done) | exact decide_eq_true (Nat.le_of_ble_eq_true h)
structure FP (n m : Nat) where
 a : AV
 b : AV
 h : Fits n m a b
structure FB (n m : Nat) where
 a : ABlk
 b : ABlk
 h : FitsB n m a b
def fpA {n m : Nat} : List (FP n m) → List AV
 | [] => []
 | p :: l => p.a :: fpA l
def fpB {n m : Nat} : List (FP n m) → List AV
 | [] => []
 | p :: l => p.b :: fpB l
def fbA {n m : Nat} : List (FB n m) → List ABlk
 | [] => []
 | p :: l => p.a :: fbA l
def fbB {n m : Nat} : List (FB n m) → List ABlk
 | [] => []
 | p :: l => p.b :: fbB l
abbrev MR := Option (List AV × List AV)
def mCons (b : AV) : MR → MR
 | some (l, as) => some (b :: l, as)
 | none => none
def mConsP (a b : AV) : MR → MR
 | some (l, as) => some (b :: l, a :: as)
 | none => none
def mKeep (r : List AV → MR) (n : Nat) (a : AV) (bs : List AV) : MR := match obv n a with
 | true => mCons a (r bs)
 | false => none
def mPrf (r : List AV → MR) (a : AV) : List AV → MR
 | b :: bs => mConsP a b (r bs)
 | [] => none
def mDrop (r : List AV → MR) (a : AV) (bs : List AV) : MR := match canDrop a with
 | true => mCons .any (r bs)
 | false => none
def mskF (n : Nat) : List AV → Nat → List Nat → List AV → MR
 | [], _, _, [] => some ([], [])
 | [], _, _, _ :: _ => none
 | a :: l, i, [], bs => mDrop (mskF n l (i + 2) []) a bs
 | a :: l, i, t :: ts, bs => (match Nat.beq t i with
   | true => mKeep (mskF n l (i + 2) ts) n a bs
   | false => (match Nat.beq t (i + 1) with
     | true => mPrf (mskF n l (i + 2) ts) a bs
     | false => mDrop (mskF n l (i + 2) (t :: ts)) a bs))
section
variable {n m : Nat} {r : List AV → MR} {l : List AV} (hr : ∀ (fps : List (FP n m)) l2, r (fpB fps) = some (l2, fpA fps) → FitsL n m l l2) {a : AV} {fps : List (FP n m)} {l2 : List AV}
include hr
theorem mKeep_ok (h : mKeep r n a (fpB fps) = some (l2, fpA fps)) : FitsL n m (a :: l) l2 := by
 unfold mKeep at h
 split at h
 · rename_i ho
   unfold mCons at h
   split at h
   · rename_i l3 as h1
     cases h
     exact .cons (obv_ok ho) (hr fps _ h1)
   · cases h
 · cases h
theorem mPrf_ok (h : mPrf r a (fpB fps) = some (l2, fpA fps)) : FitsL n m (a :: l) l2 := by
 cases fps with
 | nil => cases h
 | cons p fps =>
   simp only [fpB, mPrf] at h
   unfold mConsP at h
   split at h
   · rename_i l3 as h1
     simp only [fpA, Option.some.injEq, Prod.mk.injEq, List.cons.injEq] at h
     obtain ⟨rfl, rfl, rfl⟩ := h
     exact .cons p.h (hr fps _ h1)
   · cases h
theorem mDrop_ok (h : mDrop r a (fpB fps) = some (l2, fpA fps)) : FitsL n m (a :: l) l2 := by
 unfold mDrop at h
 split at h
 · rename_i hd
   unfold mCons at h
   split at h
   · rename_i l3 as h1
     cases h
     exact .cons (.drop hd) (hr fps _ h1)
   · cases h
 · cases h
end
theorem mskF_ok {n m : Nat} : ∀ {l : List AV} {i : Nat} {ts : List Nat} {fps : List (FP n m)} {l2 : List AV}, mskF n l i ts (fpB fps) = some (l2, fpA fps) → FitsL n m l l2 := by
 intro l
 induction l with
 | nil =>
   intro i ts fps l2 h
   cases fps with
   | nil => simp only [fpB, mskF] at h; cases h; exact .nil
   | cons p fps => simp only [fpB, mskF] at h; cases h
 | cons a l ih =>
   intro i ts fps l2 h
   cases ts with
   | nil => simp only [mskF] at h; exact mDrop_ok (fun fps l2 h => ih h) h
   | cons t ts =>
     simp only [mskF] at h
     split at h
     · exact mKeep_ok (fun fps l2 h => ih h) h
     · split at h
       · exact mPrf_ok (fun fps l2 h => ih h) h
       · exact mDrop_ok (fun fps l2 h => ih h) h
abbrev BR := Option (List (Nat × ABlk) × List ABlk)
def bCons (id : Nat) (a b : ABlk) : BR → BR
 | some (l, as) => some ((id, b) :: l, a :: as)
 | none => none
def boxF : List (Nat × ABlk) → List ABlk → BR
 | [], [] => some ([], [])
 | e :: l, b :: bs => bCons e.1 e.2 b (boxF l bs)
 | _, _ => none
theorem boxF_ok {n m : Nat} : ∀ {l : List (Nat × ABlk)} {fbs : List (FB n m)} {l2 : List (Nat × ABlk)}, boxF l (fbB fbs) = some (l2, fbA fbs) → (∀ k, Desc l k → Desc l2 k) ∧ ∀ id b, look id l2 = some b → ∃ b', look id l = some b' ∧ FitsB n m b' b := by
 intro l
 induction l with
 | nil =>
   intro fbs l2 h
   cases fbs with
   | nil => simp only [fbB, boxF] at h; cases h; exact ⟨fun _ _ => trivial, fun id b h => by cases h⟩
   | cons p fbs => simp only [fbB, boxF] at h; cases h
 | cons e l ih =>
   intro fbs l2 h
   cases fbs with
   | nil => simp only [fbB, boxF] at h; cases h
   | cons p fbs =>
     simp only [fbB, boxF] at h
     unfold bCons at h
     split at h
     · rename_i l3 as h1
       simp only [fbA, Option.some.injEq, Prod.mk.injEq, List.cons.injEq] at h
       obtain ⟨rfl, h2, rfl⟩ := h
       obtain ⟨hd, hl⟩ := ih h1
       refine ⟨fun k hk => ⟨hk.1, hd _ hk.2⟩, fun id b hb => ?_⟩
       simp only [look] at hb ⊢
       split at hb
       · cases hb; exact ⟨e.2, rfl, by rw [h2]; exact p.h⟩
       · exact hl id b hb
     · cases h
def filtF (m : Nat) : List (Nat × Nat) → List (Nat × Nat)
 | [] => []
 | x :: l => match Nat.blt x.1 m with
   | true => x :: filtF m l
   | false => filtF m l
theorem filtF_ok {m r n : Nat} {l : List (Nat × Nat)} (h : lookF r (filtF m l) = some n) : lookF r l = some n ∧ r < m := by
 induction l with
 | nil => cases h
 | cons x l ih =>
   simp only [filtF] at h
   split at h
   · rename_i hb
     simp only [lookF] at h ⊢
     split at h
     · rename_i h1
       have := beq_true h1
       subst this
       cases h
       exact ⟨rfl, Nat.le_of_ble_eq_true hb⟩
     · exact ih h
   · rename_i hb
     obtain ⟨h1, h2⟩ := ih h
     refine ⟨?_, h2⟩
     simp only [lookF]
     split
     · rename_i h3
       have := beq_true h3
       subst this
       rw [show Nat.blt x.1 m = true from Nat.ble_eq_true_of_le h2] at hb
       cases hb
     · exact h1
section
variable {P : Program} {G : Glob}
def Frg (G : Glob) (s0 : AS) (fr' : List AV) (s' : AS) (fr2 : List AV) (s2 : AS) : Prop := ∀ (cx : Cx) (w : World) (c' : Cx) (w' : World) (vs : List Value), Ext cx w c' w' → St G cx w s0 → St G c' w' s' → RpL c' w' fr' vs → ∃ c2, Ext cx w c2 w' ∧ St G c2 w' s2 ∧ RpL c2 w' fr2 vs
abbrev RR := Option (List AV × AS × List AV × List ABlk)
def rndF (live : List Nat) (n m : Nat) (fr' : List AV) (s' : AS) (bs : List AV) (cs : List ABlk) : RR :=
 match mskF n fr' 0 live bs with
 | some (fr2, as) => (match boxF (dropW n s'.h) cs with
   | some (h2, cas) => some (fr2, ⟨h2, n, filtF m s'.F, m⟩, as, cas)
   | none => none)
 | none => none
theorem dropW_lt {l : List (Nat × ABlk)} {N n : Nat} (h : Desc l N) : Desc (dropW n l) n := by
 induction l generalizing N with
 | nil => trivial
 | cons e l ih =>
   simp only [dropW]
   split
   · exact ih h.2
   · rename_i hb
     refine ⟨?_, h.2⟩
     have : ¬ n ≤ e.1 := fun hle => by rw [Nat.ble_eq_true_of_le hle] at hb; cases hb
     omega
theorem rndF_ok (hG : ∀ g cs, G g = some cs → plainL cs = true) {live : List Nat} {s0 : AS} {fr' : List AV} {s' : AS} {fps : List (FP s0.nx s0.nr)} {fbs : List (FB s0.nx s0.nr)} {fr2 : List AV} {s2 : AS} (h : rndF live s0.nx s0.nr fr' s' (fpB fps) (fbB fbs) = some (fr2, s2, fpA fps, fbA fbs)) : Frg G s0 fr' s' fr2 s2 := by
 unfold rndF at h
 split at h
 · rename_i f1 as hm
   split at h
   · rename_i h1 cas hb
     simp only [Option.some.injEq, Prod.mk.injEq] at h
     obtain ⟨rfl, rfl, rfl, rfl⟩ := h
     intro cx w c' w' vs hx hs hs' hfr
     obtain ⟨hd, hl⟩ := boxF_ok hb
     refine forgetF (s := s0) (s2 := ⟨h1, s0.nx, filtF s0.nr s'.F, s0.nr⟩) hG rfl rfl (hd _ (dropW_lt hs'.desc)) (fun id b hb => ?_) (fun r n hr => filtF_ok hr) (mskF_ok hm) cx w c' w' vs hx hs hs' hfr
     obtain ⟨b', h3, h4⟩ := hl id b hb
     exact ⟨b', dropW_look hs'.desc h3, h4⟩
   · cases h
 · cases h
def rndQ (P : Program) (G : Glob) (L : Code) (s0 : AS) (Q : AX → List AV → AS → Prop) : AX → List AV → AS → Prop
 | .normal, fr', s' => ∃ fr2 s2, Frg G s0 fr' s' fr2 s2 ∧ WL P G (XS P G) H0 L fr2 s2 Q
 | .exit id, fr', s' => ∃ fr2 s2, Frg G s0 fr' s' fr2 s2 ∧ Q (.exit id) fr2 s2
 | e, fr', s' => Q e fr' s'
theorem WL_rnd {L : Code} {fr : List AV} {s : AS} {Q : AX → List AV → AS → Prop} (h : W P G (XS P G) H0 L fr s (rndQ P G L s Q)) : WL P G (XS P G) H0 L fr s Q := by
 obtain ⟨e, fr', s', hj, h2⟩ := h
 cases e with
 | normal =>
   obtain ⟨fr2, s2, hf, e3, fr3, s3, h3, h4⟩ := h2
   exact ⟨e3, fr3, s3, .loopN (.scope hj (fun _ h => by cases h) (fun cx w c' w' vs hx hs hs' hfr => hf cx w c' w' vs hx hs hs' hfr)) h3, h4⟩
 | exit id =>
   obtain ⟨fr2, s2, hf, h4⟩ := h2
   exact ⟨_, _, _, .loopX (.scope hj (fun _ h => by cases h) (fun cx w c' w' vs hx hs hs' hfr => hf cx w c' w' vs hx hs hs' hfr)) (by simp), h4⟩
 | ret => exact ⟨_, _, _, .loopX hj (by simp), h2⟩
 | pan v => exact ⟨_, _, _, .loopX hj (by simp), h2⟩
def RetOk (P : Program) (fn : Func) (m : Nat) (Q : AX → List AV → AS → Prop) (v : AV) (s2 : AS) : Prop := ∀ fr s, aresults P s fn fr = some v → s.cut m = s2 → Q .ret fr s
def PanOk (m : Nat) (Q : AX → List AV → AS → Prop) (v : AV) (s2 : AS) : Prop := ∀ fr s, s.cut m = s2 → Q (.pan v) fr s
theorem thenK_ret {ks : List KI} {Q : AX → List AV → AS → Prop} {fr : List AV} {s : AS} (h : Q .ret fr s) : thenK P G ks Q .ret fr s := by
 induction ks with
 | nil => exact h
 | cons k ks ih => cases k <;> exact ih
theorem thenK_pan {ks : List KI} {Q : AX → List AV → AS → Prop} {fr : List AV} {s : AS} {v : AV} (h : Q (.pan v) fr s) : thenK P G ks Q (.pan v) fr s := by
 induction ks with
 | nil => exact h
 | cons k ks ih => cases k <;> exact ih
theorem RetOk.body {fn : Func} {m : Nat} {Q : CR → AS → Prop} {v : AV} {s2 : AS} (h : Q (.ret v) s2) : RetOk P fn m (bodyQ P fn m Q) v s2 := fun fr s h1 h2 => ⟨v, h1, by rw [h2]; exact h⟩
theorem PanOk.body {fn : Func} {m : Nat} {Q : CR → AS → Prop} {v : AV} {s2 : AS} (h : Q (.pan v) s2) : PanOk m (bodyQ P fn m Q) v s2 := fun fr s h2 => by show Q (.pan v) (s.cut m); rw [h2]; exact h
theorem RetOk.outer {fn : Func} {m id : Nat} {ks : List KI} {Q : AX → List AV → AS → Prop} {v : AV} {s2 : AS} (h : RetOk P fn m Q v s2) : RetOk P fn m (blockQ id (thenK P G ks Q)) v s2 := fun fr s h1 h2 => thenK_ret (h fr s h1 h2)
theorem PanOk.outer {m id : Nat} {ks : List KI} {Q : AX → List AV → AS → Prop} {v : AV} {s2 : AS} (h : PanOk m Q v s2) : PanOk m (blockQ id (thenK P G ks Q)) v s2 := fun fr s h1 => thenK_pan (h fr s h1)
theorem RetOk.rnd {fn : Func} {m : Nat} {L : Code} {s0 : AS} {Q : AX → List AV → AS → Prop} {v : AV} {s2 : AS} (h : RetOk P fn m Q v s2) : RetOk P fn m (rndQ P G L s0 Q) v s2 := h
theorem PanOk.rnd {m : Nat} {L : Code} {s0 : AS} {Q : AX → List AV → AS → Prop} {v : AV} {s2 : AS} (h : PanOk m Q v s2) : PanOk m (rndQ P G L s0 Q) v s2 := h
def retR (P : Program) (fn : Func) (m : Nat) : HR → Option (List Cd × AV × AS)
 | some (.fin .ret, [], cd, fr, s) => (match aresults P s fn fr with
   | some v => some (cd, v, s.cut m)
   | none => none)
 | _ => none
def Runs (P : Program) (G : Glob) (_l : List (PC P G)) (Q : AX → List AV → AS → Prop) (r : HR) (X : Prop) : Prop := ∀ sp cd fr' s', r = some (sp, [], cd, fr', s') → Cds P G cd → SqQ P G Q fr' s' sp → X
theorem runS {c : Code} {fr : List AV} {s : AS} {Q : AX → List AV → AS → Prop} (n : Nat) (l : List (PC P G)) : Runs P G l Q (hRun P G n c [] (pHs l) fr s) (W P G (XS P G) H0 c fr s Q) := fun _ _ _ _ h hc hk => hRun_ok n c [] h hc hk
theorem runX {id : Nat} {ks : List KI} {fr : List AV} {s : AS} {Q : AX → List AV → AS → Prop} (n : Nat) (l : List (PC P G)) : Runs P G l Q (hPop (hRun P G n) ks .normal (pHs l) fr s) (blockQ id (thenK P G ks Q) (.exit id) fr s) := fun _ _ _ _ h hc hk => by
 show thenK P G ks Q (unblock id (.exit id)) fr s
 have : unblock id (.exit id) = .normal := by simp [unblock]
 rw [this]
 exact hPop_ok (hRun_ok n) ks _ h hc hk
theorem go_ret {r : HR} {X : Prop} {Q : AX → List AV → AS → Prop} (fn : Func) (m : Nat) {l : List (PC P G)} (v : AV) (s2 : AS) (R : Runs P G l Q r X) (h : retR P fn m r = some (pCs l, v, s2)) (k : RetOk P fn m Q v s2) : X := by
 unfold retR at h
 split at h
 · rename_i cd fr' s'
   split at h
   · rename_i v' hv
     simp only [Option.some.injEq, Prod.mk.injEq] at h
     obtain ⟨rfl, rfl, rfl⟩ := h
     exact R _ _ _ _ rfl (pCs_ok l) (k _ _ hv rfl)
   · cases h
 · cases h
def rndR (live : List Nat) (n m : Nat) (bs : List AV) (cs : List ABlk) : HR → Option (AX × List Cd × List AV × AS × List AV × List ABlk)
 | some (.fin e, [], cd, fr, s) => (match rndF live n m fr s bs cs with
   | some (fr2, s2, as, cas) => some (e, cd, fr2, s2, as, cas)
   | none => none)
 | _ => none
theorem go_nx (hG : ∀ g cs, G g = some cs → plainL cs = true) {r : HR} {X : Prop} {L : Code} {s0 : AS} {Q : AX → List AV → AS → Prop} {l : List (PC P G)} (live : List Nat) (fps : List (FP s0.nx s0.nr)) (fbs : List (FB s0.nx s0.nr)) (fr2 : List AV) (s2 : AS) (R : Runs P G l (rndQ P G L s0 Q) r X)
   (h : rndR live s0.nx s0.nr (fpB fps) (fbB fbs) r = some (.normal, pCs l, fr2, s2, fpA fps, fbA fbs)) (k : WL P G (XS P G) H0 L fr2 s2 Q) : X := by
 unfold rndR at h
 split at h
 · rename_i e cd fr' s'
   split at h
   · rename_i h1
     simp only [Option.some.injEq, Prod.mk.injEq] at h
     obtain ⟨rfl, rfl, rfl, rfl, rfl, rfl⟩ := h
     exact R _ _ _ _ rfl (pCs_ok l) ⟨_, _, rndF_ok hG h1, k⟩
   · cases h
 · cases h
theorem go_ex (hG : ∀ g cs, G g = some cs → plainL cs = true) {r : HR} {X : Prop} {L : Code} {s0 : AS} {Q : AX → List AV → AS → Prop} {l : List (PC P G)} (live : List Nat) (fps : List (FP s0.nx s0.nr)) (fbs : List (FB s0.nx s0.nr)) (id : Nat) (fr2 : List AV) (s2 : AS) (R : Runs P G l (rndQ P G L s0 Q) r X)
   (h : rndR live s0.nx s0.nr (fpB fps) (fbB fbs) r = some (.exit id, pCs l, fr2, s2, fpA fps, fbA fbs)) (k : Q (.exit id) fr2 s2) : X := by
 unfold rndR at h
 split at h
 · rename_i e cd fr' s'
   split at h
   · rename_i h1
     simp only [Option.some.injEq, Prod.mk.injEq] at h
     obtain ⟨rfl, rfl, rfl, rfl, rfl, rfl⟩ := h
     exact R _ _ _ _ rfl (pCs_ok l) ⟨_, _, rndF_ok hG h1, k⟩
   · cases h
 · cases h
def dropIt (a : AV) : AV := match canDrop a with
 | true => .any
 | false => a
theorem dropIt_ok {a : AV} {c : Cx} {w : World} {v : Value} (hr : Rp c w a v) : Rp c w (dropIt a) v := by
 unfold dropIt
 split
 · rename_i h; exact .any (canDrop_ok hr h)
 · exact hr
def mskW : List AV → Nat → List Nat → List AV
 | [], _, _ => []
 | a :: l, i, [] => dropIt a :: mskW l (i + 1) []
 | a :: l, i, t :: ts => (match Nat.beq t i with
   | true => a :: mskW l (i + 1) ts
   | false => dropIt a :: mskW l (i + 1) (t :: ts))
theorem mskW_ok {c : Cx} {w : World} : ∀ {l : List AV} {i : Nat} {ts : List Nat} {vs : List Value}, RpL c w l vs → RpL c w (mskW l i ts) vs := by
 intro l
 induction l with
 | nil => intro i ts vs h; cases h; exact .nil
 | cons a l ih =>
   intro i ts vs h
   cases h with
   | cons h1 t =>
     cases ts with
     | nil => exact .cons (dropIt_ok h1) (ih t)
     | cons k ts =>
       simp only [mskW]
       split
       · exact .cons h1 (ih t)
       · exact .cons (dropIt_ok h1) (ih t)
def atR (z : List NZ) (live : List Nat) : HR → Option (List Cd × Nat × Code × List KI × List AV × AS)
 | some (.at id c ks, [], cd, fr, s) => (match nzs z fr s with
   | some (fr2, s2) => some (cd, id, c, ks, mskW fr2 0 live, s2)
   | none => none)
 | _ => none
theorem go_at {r : HR} {X : Prop} {Q : AX → List AV → AS → Prop} {l : List (PC P G)} (z : List NZ) (live : List Nat) (id : Nat) (L : Code) (ks2 : List KI) (fr2 : List AV) (s2 : AS) (R : Runs P G l Q r X)
   (h : atR z live r = some (pCs l, id, L, ks2, fr2, s2)) (k : WL P G (XS P G) H0 L fr2 s2 (blockQ id (thenK P G ks2 Q))) : X := by
 unfold atR at h
 split at h
 · rename_i id' c' ks' cd fr' s'
   split at h
   · rename_i fr3 s3 hz
     simp only [Option.some.injEq, Prod.mk.injEq] at h
     obtain ⟨rfl, rfl, rfl, rfl, rfl, rfl⟩ := h
     refine R _ _ _ _ rfl (pCs_ok l) ?_
     obtain ⟨e3, fr4, s4, h3, h4⟩ := k
     refine ⟨e3, fr4, s4, .weakL (fun cx w vs hs hr => ?_) h3, h4⟩
     obtain ⟨c2, x2, st2, r2⟩ := nzs_ok hz cx w vs hs hr
     exact ⟨c2, x2, st2, mskW_ok r2⟩
   · cases h
 · cases h
inductive Lp (γ δ ρ : Type) where
 | nx (x : γ)
 | ex (x : δ)
 | rt (r : ρ)
section loops
variable {α γ δ ρ : Type}
def foldK (k : γ → Option (δ ⊕ ρ)) : Lp γ δ ρ → Option (δ ⊕ ρ)
 | .nx x => k x
 | .ex d => some (.inl d)
 | .rt r => some (.inr r)
def foldL (body : Nat → α → γ → Option (Lp γ δ ρ)) (done : γ → δ) : List α → Nat → γ → Option (δ ⊕ ρ)
 | [], _, x => some (.inl (done x))
 | y :: l, i, x => (body i y x).bind (foldK (foldL body done l (i + 1)))
def cntL (body : Nat → γ → Option (Lp γ δ ρ)) (done : γ → δ) : Nat → Nat → γ → Option (δ ⊕ ρ)
 | 0, _, x => some (.inl (done x))
 | d + 1, i, x => (body i x).bind (foldK (cntL body done d (i + 1)))
def lim {β : Type} (n : Nat) (x : Option β) : Option β := if n ≤ 9223372036854775807 then x else none
theorem limE {β : Type} {n : Nat} {x : Option β} {r : β} (h : lim n x = some r) : n ≤ 9223372036854775807 ∧ x = some r := by
 unfold lim at h
 split at h
 · rename_i h1; exact ⟨h1, h⟩
 · cases h
theorem cndE {β : Type} {b : Bool} {t f : Option β} {r : β} (h : cond b t f = some r) : (b = true ∧ t = some r) ∨ (b = false ∧ f = some r) := by
 cases b
 · exact .inr ⟨rfl, h⟩
 · exact .inl ⟨rfl, h⟩
theorem bndE {β κ : Type} {m : Option κ} {k : κ → Option β} {r : β} (h : m.bind k = some r) : ∃ y, m = some y ∧ k y = some r := by
 cases m with
 | none => cases h
 | some y => exact ⟨y, rfl, h⟩
def LQ (Qx : δ → Prop) (Qr : ρ → Prop) : δ ⊕ ρ → Prop
 | .inl x => Qx x
 | .inr r => Qr r
def RQ (Qn : γ → Prop) (Qx : δ → Prop) (Qr : ρ → Prop) : Lp γ δ ρ → Prop
 | .nx x => Qn x
 | .ex x => Qx x
 | .rt r => Qr r
theorem WL_fold {J : Type} {L : Code} {Q : AX → List AV → AS → Prop} {body : Nat → α → γ → Option (Lp γ δ ρ)} {done : γ → δ} (l : List α) (F : Nat → γ → J → List AV) (S : Nat → γ → J → AS) (Ok : J → Prop) (Qx : δ → Prop) (Qr : ρ → Prop)
   (hz : ∀ i x j, Ok j → l.length ≤ i → Qx (done x) → WL P G (XS P G) H0 L (F i x j) (S i x j) Q)
   (hs : ∀ i y x j r, Ok j → l[i]? = some y → i < l.length → body i y x = some r → RQ (fun x' => ∀ j', Ok j' → WL P G (XS P G) H0 L (F (i + 1) x' j') (S (i + 1) x' j') Q) Qx Qr r → WL P G (XS P G) H0 L (F i x j) (S i x j) Q) :
   ∀ {x : γ} {res : δ ⊕ ρ} (i0 : Nat), foldL body done (l.drop i0) i0 x = some res → LQ Qx Qr res → ∀ j, Ok j → WL P G (XS P G) H0 L (F i0 x j) (S i0 x j) Q := by
 have key : ∀ (k : List α) (i : Nat) (x : γ) (res : δ ⊕ ρ), l.drop i = k → foldL body done k i x = some res → LQ Qx Qr res → ∀ j, Ok j → WL P G (XS P G) H0 L (F i x j) (S i x j) Q := by
   intro k
   induction k with
   | nil =>
     intro i x res hd h hq j hj
     simp only [foldL, Option.some.injEq] at h
     subst h
     exact hz i x j hj (List.drop_eq_nil_iff.1 hd) hq
   | cons y k ih =>
     intro i x res hd h hq j hj
     have hi : i < l.length := by
       rcases Nat.lt_or_ge i l.length with h1 | h1
       · exact h1
       · rw [List.drop_eq_nil_of_le h1] at hd; cases hd
     have hy : l[i]? = some y := by rw [← List.head?_drop, hd]; rfl
     have hd2 : l.drop (i + 1) = k := by rw [← List.tail_drop, hd]; rfl
     obtain ⟨r, hb, h⟩ := bndE h
     refine hs i y x j r hj hy hi hb ?_
     cases r with
     | nx x' => exact fun j' hj' => ih (i + 1) x' res hd2 h hq j' hj'
     | ex d => simp only [foldK, Option.some.injEq] at h; subst h; exact hq
     | rt v => simp only [foldK, Option.some.injEq] at h; subst h; exact hq
 intro x res i0 h hq j hj
 exact key _ i0 x res rfl h hq j hj
theorem WL_cnt {J : Type} {L : Code} {Q : AX → List AV → AS → Prop} {body : Nat → γ → Option (Lp γ δ ρ)} {done : γ → δ} (n : Nat) (F : Nat → γ → J → List AV) (S : Nat → γ → J → AS) (Ok : J → Prop) (Qx : δ → Prop) (Qr : ρ → Prop)
   (hz : ∀ x j, Ok j → Qx (done x) → WL P G (XS P G) H0 L (F n x j) (S n x j) Q)
   (hs : ∀ i x j r, Ok j → i < n → body i x = some r → RQ (fun x' => ∀ j', Ok j' → WL P G (XS P G) H0 L (F (i + 1) x' j') (S (i + 1) x' j') Q) Qx Qr r → WL P G (XS P G) H0 L (F i x j) (S i x j) Q) :
   ∀ {x : γ} {res : δ ⊕ ρ}, cntL body done n 0 x = some res → LQ Qx Qr res → ∀ j, Ok j → WL P G (XS P G) H0 L (F 0 x j) (S 0 x j) Q := by
 have key : ∀ (d i : Nat) (x : γ) (res : δ ⊕ ρ), i + d = n → cntL body done d i x = some res → LQ Qx Qr res → ∀ j, Ok j → WL P G (XS P G) H0 L (F i x j) (S i x j) Q := by
   intro d
   induction d with
   | zero =>
     intro i x res hl h hq j hj
     simp only [cntL, Option.some.injEq] at h
     subst h
     have : i = n := by simpa using hl
     subst this
     exact hz x j hj hq
   | succ d ih =>
     intro i x res hl h hq j hj
     obtain ⟨r, hb, h⟩ := bndE h
     refine hs i x j r hj (by omega) hb ?_
     cases r with
     | nx x' => exact fun j' hj' => ih (i + 1) x' res (by omega) h hq j' hj'
     | ex d => simp only [foldK, Option.some.injEq] at h; subst h; exact hq
     | rt v => simp only [foldK, Option.some.injEq] at h; subst h; exact hq
 intro x res h hq j hj
 exact key n 0 x res (by simp) h hq j hj
end loops
end
end AI
