/- The walks of the closure of ReadAnswers, of attempt and of ReadAnswers. -/
import Derived.Test.YtibgibjmpcajkaaGreatDoorBankGp
import Derived.Recover
namespace Go.Proofs.YtibgibjmpcajkaaGreatDoor
open Go.RowKit BankS


theorem readA_none (t : Bs) (h : fileP ansW ansP t = none) : readA t = none := by unfold readA; rw [h]; rfl
theorem readA_some (t : Bs) (l : List Ans) (h : fileP ansW ansP t = some l) : readA t = if writeA l = (t, 0) then some l else none := by unfold readA; rw [h]; rfl
set_option maxHeartbeats 4000000 in
theorem ans_body (w0 : World) (t : ByteArray) (wx : World) (hT : Tabs w0) (h : RdI ansC 5 54 23 w0 t 0 [] wx) (ht : t.size ≤ 4294967200) :
    Calls Tryz.prog 51 #[.pointer (some ⟨w0.heap.size + 3, 0, none⟩), .pointer (some ⟨w0.heap.size + 1, 0, none⟩), .pointer (some ⟨w0.heap.size, 0, none⟩)] wx (RetF (RdI ansC 5 54 23 w0 t) w0 t.size (readA (L t))) := by
  have HI := Lib.hid h
  clear h
  have c3 : wx.cell? ⟨w0.heap.size + 3, 0, none⟩ = some (.pointer (some ⟨w0.heap.size + 2, 0, none⟩)) := by rw [cell_row HI.out.rv]; rfl
  have hmf : ∀ (fn : Fn) (first cap : Array Value) (w : World), (Instr.makeFunc fn first cap).run Tryz.prog w = .ok (.func fn first cap) w := fun _ _ _ _ => rfl
  have HE := Lib.hid (ans_elements w0 t wx hT HI.out ht)
  go_enter Tryz.func51, Tryz.ntmps51
  go_wp2_with fail
  refine HE.out.mono ?_
  intro e w1 hpost
  clear HE
  cases hf : fileP ansW ansP (L t) with
  | none =>
    rw [hf] at hpost
    obtain ⟨rfl, hx⟩ := hpost
    exact ⟨rfl, RetF.no (readA_none _ hf) hx⟩
  | some l =>
    rw [hf] at hpost
    obtain ⟨rfl, q, hq, hI1⟩ := hpost
    obtain ⟨hl4, n4, r4, s4, hmany⟩ := file_parts hf
    have HF := Lib.hid (readA_some _ l hf)
    have HI1 := Lib.hid hI1
    have HM := Lib.hid hmany
    clear hf hI1 hmany
    obtain ⟨v, hv, hown⟩ := HI1.out.lst
    have cv : w1.cell? ⟨w0.heap.size + 1, 0, none⟩ = some v := by rw [cell_row hv]; rfl
    have HV := Lib.hid hv
    have HO := Lib.hid hown
    clear hv hown
    go_wp2_with fail
    have hown := HO.out
    have hmany := HM.out
    refine (WriteAnswers_any v l _ (HI1.out.tabs hT) (Row.of_own hown) (by omega)).mono ?_
    clear hown hmany
    rintro e w2 ⟨s, rfl, HS, b2⟩
    have HI2 : Hid (RdI ansC 5 54 23 w0 t q l w2) := Lib.hid (HI1.out.below b2.out)
    clear b2
    have ct : w2.cell? ⟨w0.heap.size, 0, none⟩ = some (.string t) := by rw [cell_row HI2.out.txt]; rfl
    obtain ⟨r, hr⟩ : ∃ r, r = writeA l := ⟨_, rfl⟩
    rw [← hr] at HS ⊢
    have HR := Lib.hid hr
    clear hr
    obtain ⟨r1, r2⟩ := r
    simp only at HS ⊢
    by_cases h0 : r2 = 0
    · subst h0
      by_cases hst : s = t
      · subst hst
        have HF2 : Hid (readA (L s) = some l) := Lib.hid (by rw [HF.out, ← HR.out, HS.out]; simp)
        go_wp2_with fail
        refine (require_yes _).mono ?_
        rintro e w3 ⟨rfl, rfl⟩
        go_wp2_with fail
        go_end0
        exact RetF.yes HF2.out hq HI2.out
      · have HF2 : Hid (readA (L t) = none) := Lib.hid (by
          rw [HF.out, ← HR.out, if_neg]
          intro e
          injection e with e1 e2
          exact hst (str_eq (HS.out.trans e1)))
        have hb := str_neq hst
        go_wp2_with fail
        refine (require_no _).mono ?_
        rintro e w3 ⟨rfl, rfl⟩
        exact ⟨rfl, RetF.no HF2.out (RdI.out HI2.out)⟩
    · have HF2 : Hid (readA (L t) = none) := Lib.hid (by
        rw [HF.out, ← HR.out, if_neg]
        intro e
        injection e with e1 e2
        exact h0 e2)
      have hb : ((r2 : Int) == 0) = false := by rw [beq_eq_false_iff_ne]; omega
      clear h0
      go_wp2_with fail
      refine (require_no _).mono ?_
      rintro e w3 ⟨rfl, rfl⟩
      exact ⟨rfl, RetF.no HF2.out (RdI.out HI2.out)⟩

set_option maxHeartbeats 4000000 in
theorem ans_attempt (w0 : World) (t : ByteArray) (w : World) (hT : Tabs w0) (hsz : w.heap.size = w0.heap.size + 4) (h : RdI ansC 5 54 23 w0 t 0 [] (w.alloc (.cells #[.bool false] 4))) (ht : t.size ≤ 4294967200) :
    Calls Tryz.prog 39 #[.func (.func 51) #[] #[.pointer (some ⟨w0.heap.size + 3, 0, none⟩), .pointer (some ⟨w0.heap.size + 1, 0, none⟩), .pointer (some ⟨w0.heap.size, 0, none⟩)]] w (RetA ansC 5 23 w0 (readA (L t))) := by
  have HI := Lib.hid h
  have HS := Lib.hid hsz
  clear h hsz
  have hmf : ∀ (fn : Fn) (first cap : Array Value) (w : World), (Instr.makeFunc fn first cap).run Tryz.prog w = .ok (.func fn first cap) w := fun _ _ _ _ => rfl
  have HB := Lib.hid (ans_body w0 t _ hT HI.out ht)
  go_enter_defers Tryz.func39, Tryz.ntmps39
  go_wp2_with fail
  refine HB.out.mono ?_
  intro e w1 hpost
  clear HB
  cases hf : readA (L t) with
  | none =>
    rw [hf] at hpost
    obtain ⟨rfl, hx⟩ := hpost
    have HX := Lib.hid hx
    have HF := Lib.hid hf
    clear hx hf
    have e4 : w1.heap[w.heap.size]? = some (.cells #[.bool false] 4 (0, 0)) := by rw [HS.out]; exact HX.out.okc
    have c4 : w1.cell? ⟨w.heap.size, 0, none⟩ = some (.bool false) := by rw [cell_row e4]; rfl
    have f4 : w1.frozen? ⟨w.heap.size, 0, none⟩ = false := fz_row e4 0
    have l4 : w.heap.size < w1.heap.size := (Array.getElem?_eq_some_iff.1 e4).1
    unfold dam
    refine leaves_cons (f := 76) (args := #[.pointer (some ⟨w.heap.size, 0, none⟩)]) (by simp) (by simp [go_sem]) ?_
    refine (catch_dam ⟨w.heap.size, 0, none⟩ [] _ c4 f4 l4).mono ?_
    rintro e u' w2 ⟨rfl, rfl, rfl⟩
    have e5 : ((w1.alloc (.cells #[] 95)).setCell ⟨w.heap.size, 0, none⟩ (.bool false)).cell? ⟨w.heap.size, 0, none⟩ = some (.bool false) := by
      have h1 : (w1.alloc (.cells #[] 95)).cell? ⟨w.heap.size, 0, none⟩ = some (.bool false) := by rw [World.cell?_alloc_lt _ _ _ l4]; exact c4
      exact World.cell?_setCell_same _ _ _ h1
    show Leaves _ _ _ _ [] .returning _
    refine ⟨.bool false, by simp [results, Tryz.results39, go_sem, e5], RetA.no (by first | rfl | exact HF.out) ?_⟩
    have hw1 := HX.out.bel.size
    exact (HX.out.bel.alloc hw1 _).setCell (by have := HS.out; show w0.heap.size ≤ w.heap.size; omega) _
  | some l =>
    rw [hf] at hpost
    obtain ⟨rfl, q, hq, hI1⟩ := hpost
    have HI1 := Lib.hid hI1
    have HF := Lib.hid hf
    clear hI1 hf
    have e4 : w1.heap[w.heap.size]? = some (.cells #[.bool false] 4 (0, 0)) := by rw [HS.out]; exact HI1.out.okc
    have c4 : w1.cell? ⟨w.heap.size, 0, none⟩ = some (.bool false) := by rw [cell_row e4]; rfl
    have f4 : w1.frozen? ⟨w.heap.size, 0, none⟩ = false := fz_row e4 0
    clear e4
    go_wp2_with fail
    refine leaves_cons (f := 76) (args := #[.pointer (some ⟨w.heap.size, 0, none⟩)]) (by simp) (by simp [go_sem]) ?_
    refine (catch_idle ⟨w.heap.size, 0, none⟩ _).mono ?_
    rintro e u' w2 ⟨rfl, rfl, rfl⟩
    have e5 : (w1.setCell ⟨w.heap.size, 0, none⟩ (.bool true)).cell? ⟨w.heap.size, 0, none⟩ = some (.bool true) := World.cell?_setCell_same _ _ _ c4
    have ha := HI1.out.after (.bool true)
    rw [← HS.out] at ha
    show Leaves _ _ _ _ [] .returning _
    exact ⟨.bool true, by simp [results, Tryz.results39, go_sem, e5], RetA.yes (by first | rfl | exact HF.out) ha.1 ha.2⟩

/-- what ReadAnswers hands back -/
def RetN (r : Option (List Ans)) (w : World) (e : Ending) (w' : World) : Prop := match r with
  | some l => (∃ v, e = .returned (.tuple #[v, .int .i64 0]) ∧ Rd ansC 5 w' v l) ∧ Below w.heap.size w w'
  | none => e = .returned (.tuple #[.slice none 0 0, .int .i64 12]) ∧ Below w.heap.size w w'
theorem RetN.yes {r : Option (List Ans)} {l : List Ans} {w w' : World} {v : Value} (h : r = some l) (hr : Rd ansC 5 w' v l) (hb : Below w.heap.size w w') : RetN r w (.returned (.tuple #[v, .int .i64 0])) w' := by subst h; exact ⟨⟨v, rfl, hr⟩, hb⟩
theorem RetN.no {r : Option (List Ans)} {w w' : World} (h : r = none) (hb : Below w.heap.size w w') : RetN r w (.returned (.tuple #[.slice none 0 0, .int .i64 12])) w' := by subst h; exact ⟨rfl, hb⟩
set_option maxHeartbeats 4000000 in
theorem ReadAnswers_any (w0 : World) (t : ByteArray) (hT : Tabs w0) (ht : t.size ≤ 4294967200) :
    Calls Tryz.prog 18 #[.string t] w0 (RetN (readA (L t)) w0) := by
  have hmf : ∀ (fn : Fn) (first cap : Array Value) (w : World), (Instr.makeFunc fn first cap).run Tryz.prog w = .ok (.func fn first cap) w := fun _ _ _ _ => rfl
  go_enter Tryz.func18, Tryz.ntmps18
  have HA := Lib.hid (ans_attempt w0 t ((((w0.alloc (.cells #[.string t] 9)).alloc (.cells #[.slice none 0 0] 23)).alloc (.cells #[.int .i64 0, .string t] 68)).alloc (.cells #[.pointer (some ⟨w0.heap.size + 1 + 1, 0, none⟩)] 64)) hT (by simp) (RdI.start w0 t) ht)
  go_wp2_with fail
  refine HA.out.mono ?_
  intro e w1 hpost
  clear HA
  cases hf : readA (L t) with
  | none =>
    rw [hf] at hpost
    obtain ⟨rfl, hb⟩ := hpost
    have HB := Lib.hid hb
    have HF := Lib.hid hf
    clear hb hf
    go_wp2_with fail
    go_ret2
    exact RetN.no HF.out HB.out
  | some l =>
    rw [hf] at hpost
    obtain ⟨rfl, ⟨v, hv, hrd⟩, hb⟩ := hpost
    have HB := Lib.hid hb
    have HR := Lib.hid hrd
    have cv : w1.cell? ⟨w0.heap.size + 1, 0, none⟩ = some v := by rw [cell_row hv]; rfl
    have HF := Lib.hid hf
    clear hb hf hv hrd
    go_wp2_with fail
    go_ret2
    exact RetN.yes HF.out HR.out HB.out
end Go.Proofs.YtibgibjmpcajkaaGreatDoor
