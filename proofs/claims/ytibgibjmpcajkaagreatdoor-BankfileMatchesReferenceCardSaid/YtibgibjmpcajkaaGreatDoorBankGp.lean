/- The walks of the closure of Read, of attempt and of Read. -/
import Derived.Test.YtibgibjmpcajkaaGreatDoorBankFa
import Derived.Recover
namespace Go.Proofs.YtibgibjmpcajkaaGreatDoor
open Go.RowKit BankS

theorem many_len {α : Type} {f : Bs → Option (α × Bs)} (n : Nat) (r : Bs) (l : List α) (s : Bs) (h : manyP f n r = some (l, s)) : l.length = n := by
  induction n generalizing r l with
  | zero => simp [manyP] at h; rw [h.1]; rfl
  | succ n ih =>
    cases hf : f r with
    | none => rw [many_none hf] at h; cases h
    | some xr =>
      rw [many_some (x := xr.1) (s := xr.2) hf] at h
      cases hm : manyP f n xr.2 with
      | none => rw [hm] at h; cases h
      | some q =>
        rw [hm] at h
        simp only [Option.map_some, Option.some.injEq, Prod.mk.injEq] at h
        rw [← h.1, List.length_cons, ih xr.2 q.1 (by rw [hm, ← h.2])]
theorem many_all {α : Type} {f : Bs → Option (α × Bs)} {ok : α → Prop} (hf0 : ∀ r x s, f r = some (x, s) → ok x) (n : Nat) (r : Bs) (l : List α) (s : Bs) (h : manyP f n r = some (l, s)) : ∀ x ∈ l, ok x := by
  induction n generalizing r l with
  | zero => simp [manyP] at h; rw [h.1]; simp
  | succ n ih =>
    cases hf : f r with
    | none => rw [many_none hf] at h; cases h
    | some xr =>
      rw [many_some (x := xr.1) (s := xr.2) hf] at h
      cases hm : manyP f n xr.2 with
      | none => rw [hm] at h; cases h
      | some q =>
        rw [hm] at h
        simp only [Option.map_some, Option.some.injEq, Prod.mk.injEq] at h
        intro x hx
        rw [← h.1] at hx
        rcases List.mem_cons.1 hx with hx | hx
        · subst hx; exact hf0 r _ _ hf
        · exact ih xr.2 q.1 (by rw [hm, ← h.2]) x hx
theorem file_parts {α : Type} {word : Bs} {f : Bs → Option (α × Bs)} {t : Bs} {l : List α} (h : fileP word f t = some l) : l.length ≤ 400 ∧ ∃ n r s, manyP f n r = some (l, s) := by
  unfold fileP at h
  cases h1 : lineP 2 t with
  | none => rw [h1] at h; cases h
  | some p =>
    rw [h1, Option.bind_some] at h
    by_cases hw : p.1.getD 0 [] = word
    · rw [if_pos hw] at h
      cases h2 : numP (p.1.getD 1 []) with
      | none => rw [h2] at h; cases h
      | some n =>
        rw [h2, Option.bind_some] at h
        by_cases hc : 0 ≤ n ∧ n ≤ 400
        · rw [if_pos hc] at h
          cases h3 : manyP f n.toNat p.2 with
          | none => rw [h3] at h; cases h
          | some q =>
            rw [h3, Option.bind_some] at h
            cases h4 : lineP 4 q.2 with
            | none => rw [h4] at h; cases h
            | some z =>
              rw [h4, Option.bind_some] at h
              by_cases h5 : z.2 = []
              · rw [if_pos h5] at h
                injection h with h
                subst h
                have := many_len _ _ _ q.2 h3
                exact ⟨by omega, _, _, _, h3⟩
              · rw [if_neg h5] at h; cases h
        · rw [if_neg hc] at h; cases h
    · rw [if_neg hw] at h; cases h
theorem pay_name_len (r : Bs) (x : Pay) (s : Bs) (h : payP r = some (x, s)) : x.2.1.length ≤ 16 := by
  unfold payP at h
  cases h1 : lineP 4 r with
  | none => rw [h1] at h; cases h
  | some p =>
    rw [h1, Option.bind_some] at h
    cases h2 : numP (p.1.getD 0 []) with
    | none => rw [h2] at h; cases h
    | some i =>
      rw [h2, Option.bind_some] at h
      cases h3 : nameP (p.1.getD 1 []) with
      | none => rw [h3] at h; cases h
      | some a =>
        rw [h3, Option.bind_some] at h
        cases h4 : numP (p.1.getD 2 []) with
        | none => rw [h4] at h; cases h
        | some c =>
          rw [h4, Option.bind_some] at h
          cases h5 : dayP (p.1.getD 3 []) with
          | none => rw [h5] at h; cases h
          | some d =>
            rw [h5] at h
            simp only [Option.map_some, Option.some.injEq, Prod.mk.injEq] at h
            rw [← h.1]
            unfold nameP at h3
            by_cases e : accB (p.1.getD 1 []) = true
            · rw [if_pos e] at h3
              injection h3 with h3
              unfold accB at e
              rw [h3, Bool.and_eq_true] at e
              exact isName_len _ e.1
            · rw [if_neg e] at h3; cases h3
theorem type_dam (w : World) : (Instr.typeAssert (.iface 95 (.agg #[])) 20 95 true).run Tryz.prog w = .ok (.tuple #[.agg #[], .bool true]) w := by kernel_rfl
set_option maxHeartbeats 1000000 in
/-- the deferred closure of attempt, where the frame panics: the panic is taken up, the result is false -/
theorem catch_dam (p : Addr) (older : List PanicEntry) (w : World) (hc : w.cell? p = some (.bool false)) (hz : w.frozen? p = false) (hp : p.block < w.heap.size) :
    CallsD Tryz.prog 76 #[.pointer (some p)] (.panicking ({ v := .iface 95 (.agg #[]), recovered := false } :: older)) w fun e u' w' =>
      e = .returned (.tuple #[]) ∧ u' = .panicking ({ v := .iface 95 (.agg #[]), recovered := true } :: older) ∧ w' = (w.alloc (.cells #[] 95)).setCell p (.bool false) := by
  refine callsD_of_wpS Tryz.func76 rfl fun c₀ cs hu => ?_
  apply wpS_seq
  apply wpS_region
  simp [wpOpsS, go_sem, recoverD, hu, Tryz.ntmps76, Exit.thenS]
  clear hu
  have hta := type_dam
  apply wpS_seq
  apply wpS_region
  simp [wpOpsS, go_sem, Exit.thenS]
  refine wpS_cond (t := true) (by simp [Act.eval, Array.replicate]) ?_
  simp only [if_true]
  apply wpS_seq
  apply wpS_seq
  apply wpS_region
  simp [wpOpsS, go_sem, Exit.thenS, type_dam]
  apply wpS_seq
  apply wpS_region
  simp [wpOpsS, go_sem, Exit.thenS]
  refine wpS_cond (t := false) (by simp [Act.eval, Array.replicate]) ?_
  simp only [Bool.false_eq_true, if_false]
  refine wpS_of_wp (wp_skip ?_)
  simp only [Exit.thenS]
  have ha : Below w.heap.size w (w.alloc (.cells #[] 95)) := (Below.refl _ _).alloc (Nat.le_refl _) _
  have hc' := (ha.cell hp).trans hc
  have hz' := (ha.frozen hp).trans hz
  clear ha
  apply wpS_region
  simp [wpOpsS, go_sem, hc', hz', bodyPostS, results, Tryz.results76]
theorem catch_idle (p : Addr) (w : World) :
    CallsD Tryz.prog 76 #[.pointer (some p)] .returning w fun e u' w' => e = .returned (.tuple #[]) ∧ u' = .returning ∧ w' = w := by
  refine callsD_of_wpS Tryz.func76 rfl fun c₀ cs hu => ?_
  apply wpS_seq
  apply wpS_region
  simp [wpOpsS, go_sem, recoverD, hu, Tryz.ntmps76, Exit.thenS]
  apply wpS_seq
  apply wpS_region
  simp [wpOpsS, go_sem, Exit.thenS]
  refine wpS_cond (t := false) (by simp [Act.eval, Array.replicate]) ?_
  simp only [Bool.false_eq_true, if_false]
  refine wpS_of_wp (wp_skip ?_)
  cases c₀
  simp_all [bodyPostS, results, Tryz.results76]

theorem readP_none (t : Bs) (h : fileP payW payP t = none) : readP t = none := by unfold readP; rw [h]; rfl
theorem readP_some (t : Bs) (l : List Pay) (h : fileP payW payP t = some l) : readP t = if writeP l = (t, 0) then some l else none := by unfold readP; rw [h]; rfl
set_option maxHeartbeats 4000000 in
theorem pay_body (w0 : World) (t : ByteArray) (wx : World) (hT : Tabs w0) (h : RdI payC 4 27 22 w0 t 0 [] wx) (ht : t.size ≤ 4294967200) :
    Calls Tryz.prog 40 #[.pointer (some ⟨w0.heap.size + 3, 0, none⟩), .pointer (some ⟨w0.heap.size + 1, 0, none⟩), .pointer (some ⟨w0.heap.size, 0, none⟩)] wx (RetF (RdI payC 4 27 22 w0 t) w0 t.size (readP (L t))) := by
  have HI := Lib.hid h
  clear h
  have c3 : wx.cell? ⟨w0.heap.size + 3, 0, none⟩ = some (.pointer (some ⟨w0.heap.size + 2, 0, none⟩)) := by rw [cell_row HI.out.rv]; rfl
  have hmf : ∀ (fn : Fn) (first cap : Array Value) (w : World), (Instr.makeFunc fn first cap).run Tryz.prog w = .ok (.func fn first cap) w := fun _ _ _ _ => rfl
  have HE := Lib.hid (pay_elements w0 t wx hT HI.out ht)
  go_enter Tryz.func40, Tryz.ntmps40
  go_wp2_with fail
  refine HE.out.mono ?_
  intro e w1 hpost
  clear HE
  cases hf : fileP payW payP (L t) with
  | none =>
    rw [hf] at hpost
    obtain ⟨rfl, hx⟩ := hpost
    exact ⟨rfl, RetF.no (readP_none _ hf) hx⟩
  | some l =>
    rw [hf] at hpost
    obtain ⟨rfl, q, hq, hI1⟩ := hpost
    obtain ⟨hl4, n4, r4, s4, hmany⟩ := file_parts hf
    have HF := Lib.hid (readP_some _ l hf)
    have HI1 := Lib.hid hI1
    have HM := Lib.hid hmany
    clear hf hI1 hmany
    obtain ⟨v, hv, hown⟩ := HI1.out.lst
    have cv : w1.cell? ⟨w0.heap.size + 1, 0, none⟩ = some v := by rw [cell_row hv]; rfl
    have HV := Lib.hid hv
    have HO := Lib.hid hown
    clear hv hown
    go_wp2_with fail
    have hown := HO.out
    have hmany := HM.out
    refine (Write_any v l _ (HI1.out.tabs hT) (Row.of_own hown) (fun p hp => by have := many_all (ok := fun x : Pay => x.2.1.length ≤ 16) pay_name_len _ _ _ _ hmany p hp; omega) (by omega)).mono ?_
    clear hown hmany
    rintro e w2 ⟨s, rfl, HS, b2⟩
    have HI2 : Hid (RdI payC 4 27 22 w0 t q l w2) := Lib.hid (HI1.out.below b2.out)
    clear b2
    have ct : w2.cell? ⟨w0.heap.size, 0, none⟩ = some (.string t) := by rw [cell_row HI2.out.txt]; rfl
    obtain ⟨r, hr⟩ : ∃ r, r = writeP l := ⟨_, rfl⟩
    rw [← hr] at HS ⊢
    have HR := Lib.hid hr
    clear hr
    obtain ⟨r1, r2⟩ := r
    simp only at HS ⊢
    by_cases h0 : r2 = 0
    · subst h0
      by_cases hst : s = t
      · subst hst
        have HF2 : Hid (readP (L s) = some l) := Lib.hid (by rw [HF.out, ← HR.out, HS.out]; simp)
        go_wp2_with fail
        refine (require_yes _).mono ?_
        rintro e w3 ⟨rfl, rfl⟩
        go_wp2_with fail
        go_end0
        exact RetF.yes HF2.out hq HI2.out
      · have HF2 : Hid (readP (L t) = none) := Lib.hid (by
          rw [HF.out, ← HR.out, if_neg]
          intro e
          injection e with e1 e2
          exact hst (str_eq (HS.out.trans e1)))
        have hb := str_neq hst
        go_wp2_with fail
        refine (require_no _).mono ?_
        rintro e w3 ⟨rfl, rfl⟩
        exact ⟨rfl, RetF.no HF2.out (RdI.out HI2.out)⟩
    · have HF2 : Hid (readP (L t) = none) := Lib.hid (by
        rw [HF.out, ← HR.out, if_neg]
        intro e
        injection e with e1 e2
        exact h0 e2)
      have hb : ((r2 : Int) == 0) = false := by rw [beq_eq_false_iff_ne]; omega
      clear h0
      go_wp2_with fail
      refine (require_no _).mono ?_
      rintro e w3 ⟨rfl, rfl⟩
      exact ⟨rfl, RetF.no HF2.out (RdI.out HI2.out)⟩

/-- how attempt and what it reads ends -/
def RetA {α : Type} (fc : α → List Value) (c : Nat) (LT : TypeId) (w0 : World) (r : Option (List α)) (e : Ending) (w' : World) : Prop := match r with
  | some l => e = .returned (.bool true) ∧ (∃ v, w'.heap[w0.heap.size + 1]? = some (.cells #[v] LT (0, 0)) ∧ Rd fc c w' v l) ∧ Below w0.heap.size w0 w'
  | none => e = .returned (.bool false) ∧ Below w0.heap.size w0 w'
theorem RetA.yes {α : Type} {fc : α → List Value} {c : Nat} {LT : TypeId} {w0 w' : World} {r : Option (List α)} {l : List α} (h : r = some l) (hv : ∃ v, w'.heap[w0.heap.size + 1]? = some (.cells #[v] LT (0, 0)) ∧ Rd fc c w' v l) (hb : Below w0.heap.size w0 w') : RetA fc c LT w0 r (.returned (.bool true)) w' := by subst h; exact ⟨rfl, hv, hb⟩
theorem RetA.no {α : Type} {fc : α → List Value} {c : Nat} {LT : TypeId} {w0 w' : World} {r : Option (List α)} (h : r = none) (hb : Below w0.heap.size w0 w') : RetA fc c LT w0 r (.returned (.bool false)) w' := by subst h; exact ⟨rfl, hb⟩
theorem RdI.start {α : Type} {fc : α → List Value} {c : Nat} {T LT : TypeId} (w0 : World) (t : ByteArray) :
    RdI fc c T LT w0 t 0 [] (((((w0.alloc (.cells #[.string t] 9)).alloc (.cells #[.slice none 0 0] LT)).alloc (.cells #[.int .i64 0, .string t] 68)).alloc (.cells #[.pointer (some ⟨w0.heap.size + 1 + 1, 0, none⟩)] 64)).alloc (.cells #[.bool false] 4)) := by
  have h0 := heap_new w0 #[.string t] 9
  have h1 := heap_new (w0.alloc (.cells #[.string t] 9)) #[.slice none 0 0] LT
  have h2 := heap_new ((w0.alloc (.cells #[.string t] 9)).alloc (.cells #[.slice none 0 0] LT)) #[.int .i64 0, .string t] 68
  have h3 := heap_new (((w0.alloc (.cells #[.string t] 9)).alloc (.cells #[.slice none 0 0] LT)).alloc (.cells #[.int .i64 0, .string t] 68)) #[.pointer (some ⟨w0.heap.size + 1 + 1, 0, none⟩)] 64
  have h4 := heap_new ((((w0.alloc (.cells #[.string t] 9)).alloc (.cells #[.slice none 0 0] LT)).alloc (.cells #[.int .i64 0, .string t] 68)).alloc (.cells #[.pointer (some ⟨w0.heap.size + 1 + 1, 0, none⟩)] 64)) #[.bool false] 4
  simp only [World.size_alloc] at h0 h1 h2 h3 h4
  refine ⟨?_, ⟨.slice none 0 0, ?_, World.ownsRow_nil _ _ _ _⟩, ?_, ?_, h4, ?_⟩
  · rw [Below.heap_alloc _ _ _ (by simp; omega), Below.heap_alloc _ _ _ (by simp; omega), Below.heap_alloc _ _ _ (by simp; omega), Below.heap_alloc _ _ _ (by simp)]; exact h0
  · rw [Below.heap_alloc _ _ _ (by simp), Below.heap_alloc _ _ _ (by simp), Below.heap_alloc _ _ _ (by simp)]; exact h1
  · unfold RdrAt
    rw [Below.heap_alloc _ _ _ (by simp), Below.heap_alloc _ _ _ (by simp)]; exact h2
  · rw [Below.heap_alloc _ _ _ (by simp)]; exact h3
  · exact (((((Below.refl _ _).alloc (Nat.le_refl _) _).alloc (by simp) _).alloc (by simp; omega) _).alloc (by simp; omega) _).alloc (by simp; omega) _
theorem RdI.after {α : Type} {fc : α → List Value} {c : Nat} {T LT : TypeId} {w0 : World} {t : ByteArray} {p : Nat} {l : List α} {wx : World} (h : RdI fc c T LT w0 t p l wx) (v : Value) :
    (∃ u, (wx.setCell ⟨w0.heap.size + 4, 0, none⟩ v).heap[w0.heap.size + 1]? = some (.cells #[u] LT (0, 0)) ∧ Rd fc c (wx.setCell ⟨w0.heap.size + 4, 0, none⟩ v) u l) ∧ Below w0.heap.size w0 (wx.setCell ⟨w0.heap.size + 4, 0, none⟩ v) := by
  obtain ⟨u, hu, ho⟩ := h.lst
  refine ⟨⟨u, ?_, ?_⟩, h.bel.setCell (by simp) _⟩
  · rw [Below.heap_setCell _ _ _ _ (by simp)]; exact hu
  · exact Row.of_own (ho.kept (row := some (w0.heap.size + 4)) ⟨rfl, rfl, rfl, by simp [World.setCell], fun k _ hne => Below.heap_setCell _ _ _ _ (fun e => hne (by rw [e]))⟩ (Or.inr (fun e => by have := (ho.lt _ e).1; omega)))

set_option maxHeartbeats 4000000 in
theorem pay_attempt (w0 : World) (t : ByteArray) (w : World) (hT : Tabs w0) (hsz : w.heap.size = w0.heap.size + 4) (h : RdI payC 4 27 22 w0 t 0 [] (w.alloc (.cells #[.bool false] 4))) (ht : t.size ≤ 4294967200) :
    Calls Tryz.prog 39 #[.func (.func 40) #[] #[.pointer (some ⟨w0.heap.size + 3, 0, none⟩), .pointer (some ⟨w0.heap.size + 1, 0, none⟩), .pointer (some ⟨w0.heap.size, 0, none⟩)]] w (RetA payC 4 22 w0 (readP (L t))) := by
  have HI := Lib.hid h
  have HS := Lib.hid hsz
  clear h hsz
  have hmf : ∀ (fn : Fn) (first cap : Array Value) (w : World), (Instr.makeFunc fn first cap).run Tryz.prog w = .ok (.func fn first cap) w := fun _ _ _ _ => rfl
  have HB := Lib.hid (pay_body w0 t _ hT HI.out ht)
  go_enter_defers Tryz.func39, Tryz.ntmps39
  go_wp2_with fail
  refine HB.out.mono ?_
  intro e w1 hpost
  clear HB
  cases hf : readP (L t) with
  | none =>
    rw [hf] at hpost
    obtain ⟨rfl, hx⟩ := hpost
    have HX := Lib.hid hx
    have HF := Lib.hid hf
    clear hx hf
    have e4 : w1.heap[w.heap.size]? = some (.cells #[.bool false] 4 (0, 0)) := by rw [HS.out]; exact HX.out.okc
    have c4 : w1.cell? ⟨w.heap.size, 0, none⟩ = some (.bool false) := by rw [cell_row e4]; rfl
    have f4 : w1.frozen? ⟨w.heap.size, 0, none⟩ = false := fz_row e4 0
    have l4 : w.heap.size < w1.heap.size := (Array.getElem?_eq_some_iff.1 e4).1
    unfold dam
    refine leaves_cons (f := 76) (args := #[.pointer (some ⟨w.heap.size, 0, none⟩)]) (by simp) (by simp [go_sem]) ?_
    refine (catch_dam ⟨w.heap.size, 0, none⟩ [] _ c4 f4 l4).mono ?_
    rintro e u' w2 ⟨rfl, rfl, rfl⟩
    have e5 : ((w1.alloc (.cells #[] 95)).setCell ⟨w.heap.size, 0, none⟩ (.bool false)).cell? ⟨w.heap.size, 0, none⟩ = some (.bool false) := by
      have h1 : (w1.alloc (.cells #[] 95)).cell? ⟨w.heap.size, 0, none⟩ = some (.bool false) := by rw [World.cell?_alloc_lt _ _ _ l4]; exact c4
      exact World.cell?_setCell_same _ _ _ h1
    show Leaves _ _ _ _ [] .returning _
    refine ⟨.bool false, by simp [results, Tryz.results39, go_sem, e5], RetA.no (by first | rfl | exact HF.out) ?_⟩
    have hw1 := HX.out.bel.size
    exact (HX.out.bel.alloc hw1 _).setCell (by have := HS.out; show w0.heap.size ≤ w.heap.size; omega) _
  | some l =>
    rw [hf] at hpost
    obtain ⟨rfl, q, hq, hI1⟩ := hpost
    have HI1 := Lib.hid hI1
    have HF := Lib.hid hf
    clear hI1 hf
    have e4 : w1.heap[w.heap.size]? = some (.cells #[.bool false] 4 (0, 0)) := by rw [HS.out]; exact HI1.out.okc
    have c4 : w1.cell? ⟨w.heap.size, 0, none⟩ = some (.bool false) := by rw [cell_row e4]; rfl
    have f4 : w1.frozen? ⟨w.heap.size, 0, none⟩ = false := fz_row e4 0
    clear e4
    go_wp2_with fail
    refine leaves_cons (f := 76) (args := #[.pointer (some ⟨w.heap.size, 0, none⟩)]) (by simp) (by simp [go_sem]) ?_
    refine (catch_idle ⟨w.heap.size, 0, none⟩ _).mono ?_
    rintro e u' w2 ⟨rfl, rfl, rfl⟩
    have e5 : (w1.setCell ⟨w.heap.size, 0, none⟩ (.bool true)).cell? ⟨w.heap.size, 0, none⟩ = some (.bool true) := World.cell?_setCell_same _ _ _ c4
    have ha := HI1.out.after (.bool true)
    rw [← HS.out] at ha
    show Leaves _ _ _ _ [] .returning _
    exact ⟨.bool true, by simp [results, Tryz.results39, go_sem, e5], RetA.yes (by first | rfl | exact HF.out) ha.1 ha.2⟩

/-- what Read hands back -/
def RetP (r : Option (List Pay)) (w : World) (e : Ending) (w' : World) : Prop := match r with
  | some l => (∃ v, e = .returned (.tuple #[v, .int .i64 0]) ∧ Rd payC 4 w' v l) ∧ Below w.heap.size w w'
  | none => e = .returned (.tuple #[.slice none 0 0, .int .i64 12]) ∧ Below w.heap.size w w'
theorem RetP.yes {r : Option (List Pay)} {l : List Pay} {w w' : World} {v : Value} (h : r = some l) (hr : Rd payC 4 w' v l) (hb : Below w.heap.size w w') : RetP r w (.returned (.tuple #[v, .int .i64 0])) w' := by subst h; exact ⟨⟨v, rfl, hr⟩, hb⟩
theorem RetP.no {r : Option (List Pay)} {w w' : World} (h : r = none) (hb : Below w.heap.size w w') : RetP r w (.returned (.tuple #[.slice none 0 0, .int .i64 12])) w' := by subst h; exact ⟨rfl, hb⟩
set_option maxHeartbeats 4000000 in
theorem Read_any (w0 : World) (t : ByteArray) (hT : Tabs w0) (ht : t.size ≤ 4294967200) :
    Calls Tryz.prog 13 #[.string t] w0 (RetP (readP (L t)) w0) := by
  have hmf : ∀ (fn : Fn) (first cap : Array Value) (w : World), (Instr.makeFunc fn first cap).run Tryz.prog w = .ok (.func fn first cap) w := fun _ _ _ _ => rfl
  go_enter Tryz.func13, Tryz.ntmps13
  have HA := Lib.hid (pay_attempt w0 t ((((w0.alloc (.cells #[.string t] 9)).alloc (.cells #[.slice none 0 0] 22)).alloc (.cells #[.int .i64 0, .string t] 68)).alloc (.cells #[.pointer (some ⟨w0.heap.size + 1 + 1, 0, none⟩)] 64)) hT (by simp) (RdI.start w0 t) ht)
  go_wp2_with fail
  refine HA.out.mono ?_
  intro e w1 hpost
  clear HA
  cases hf : readP (L t) with
  | none =>
    rw [hf] at hpost
    obtain ⟨rfl, hb⟩ := hpost
    have HB := Lib.hid hb
    have HF := Lib.hid hf
    clear hb hf
    go_wp2_with fail
    go_ret2
    exact RetP.no HF.out HB.out
  | some l =>
    rw [hf] at hpost
    obtain ⟨rfl, ⟨v, hv, hrd⟩, hb⟩ := hpost
    have HB := Lib.hid hb
    have HR := Lib.hid hrd
    have cv : w1.cell? ⟨w0.heap.size + 1, 0, none⟩ = some v := by rw [cell_row hv]; rfl
    have HF := Lib.hid hf
    clear hb hf hv hrd
    go_wp2_with fail
    go_ret2
    exact RetP.yes HF.out HR.out HB.out
end Go.Proofs.YtibgibjmpcajkaaGreatDoor
