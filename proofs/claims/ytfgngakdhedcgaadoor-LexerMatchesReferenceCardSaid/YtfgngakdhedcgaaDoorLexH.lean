/- Reading slices of tokens; Same, texts, fails, head. -/
import Derived.Test.YtfgngakdhedcgaaDoorLexL
import Derived.Deep.QuietTactic
import Derived.BigQuiet
import Derived.WalkSmall
namespace Go.Proofs.YtfgngakdhedcgaaDoor
open Go.RowKit LexS

/-- v is a slice that reads as the tokens l -/
def Toks (w : World) (v : Value) (l : List Tok) : Prop :=
  ∃ A cap, v = .slice A l.length cap ∧ l.length ≤ cap ∧ (l ≠ [] → ∃ g o, A = some ⟨g, o, none⟩ ∧ g < w.heap.size ∧
    ∀ (i : Nat) x, l[i]? = some x → w.cell? ⟨g, o + i * 3, none⟩ = some (.int .i64 x.1) ∧ w.cell? ⟨g, o + i * 3 + 1, none⟩ = some (.string ⟨x.2.1.toArray⟩) ∧ w.cell? ⟨g, o + i * 3 + 2, none⟩ = some (.int .i64 x.2.2))
theorem tokCells_get (l : List Tok) (i : Nat) (x : Tok) (h : l[i]? = some x) :
    (tokCells l)[i * 3]? = some (.int .i64 x.1) ∧ (tokCells l)[i * 3 + 1]? = some (.string ⟨x.2.1.toArray⟩) ∧ (tokCells l)[i * 3 + 2]? = some (.int .i64 x.2.2) := by
  induction l generalizing i with
  | nil => simp at h
  | cons y l ih =>
    unfold tokCells
    rw [List.flatMap_cons]
    cases i with
    | zero => simp at h; subst h; exact ⟨rfl, rfl, rfl⟩
    | succ i =>
      have := ih i (by simpa using h)
      unfold tokCells at this
      rw [show (i + 1) * 3 = i * 3 + 3 from by omega]
      exact this
theorem Toks.of_own {w : World} {base : Nat} {v : Value} {l : List Tok} (h : w.ownsRow base 30 3 v l.length (tokCells l)) : Toks w v l := by
  rcases h.2 with ⟨rfl, h0⟩ | ⟨g, cap, cur, rfl, _, hg, hn, _, hcur, hxs⟩
  · exact ⟨none, 0, by rw [h0], by omega, fun hne => absurd (List.length_eq_zero_iff.1 h0) hne⟩
  · refine ⟨_, cap, rfl, hn, fun _ => ⟨g, 0, rfl, (Array.getElem?_eq_some_iff.1 hg).1, ?_⟩⟩
    intro i x hx
    obtain ⟨h1, h2, h3⟩ := tokCells_get l i x hx
    have hc : ∀ j u, (tokCells l)[j]? = some u → w.cell? ⟨g, 0 + j, none⟩ = some u := by
      intro j u hj
      rw [Nat.zero_add, cell_of_row w g j cur _ _ hg, ← hj, ← hxs, ← Array.getElem?_toList, List.getElem?_take, if_pos]
      have := (List.getElem?_eq_some_iff.1 hj).1
      rw [tokCells_length] at this
      exact this
    refine ⟨hc _ _ h1, ?_, ?_⟩
    · rw [Nat.add_assoc]; exact hc _ _ h2
    · rw [Nat.add_assoc]; exact hc _ _ h3
theorem Toks.keep {w w' : World} {v : Value} {l : List Tok} (h : Toks w v l) (hb : Below w.heap.size w w') : Toks w' v l := by
  obtain ⟨A, cap, rfl, hc, hA⟩ := h
  refine ⟨A, cap, rfl, hc, fun hne => ?_⟩
  obtain ⟨g, o, rfl, hg, hx⟩ := hA hne
  have hs := hb.size
  refine ⟨g, o, rfl, by omega, fun i x hi => ?_⟩
  obtain ⟨h1, h2, h3⟩ := hx i x hi
  exact ⟨(hb.cell (p := ⟨g, o + i * 3, none⟩) hg).trans h1, (hb.cell (p := ⟨g, o + i * 3 + 1, none⟩) hg).trans h2, (hb.cell (p := ⟨g, o + i * 3 + 2, none⟩) hg).trans h3⟩
theorem below_dn {w : World} {B : Nat} (n : Nat) : Below B w (w.drewN n) := ⟨rfl, rfl, rfl, Nat.le_refl _, fun _ _ => rfl⟩

theorem tok_u : Tryd.prog.underlying 30 = some (.struct (Tryd.prog.fieldsOf 30)) := by kernel_rfl
theorem tok_s : Tryd.prog.stoodInHeld 30 = false := by kernel_rfl
theorem tok_f : (Tryd.prog.fieldsOf 30).toList = [⟨ "Kind", 3, 0, false, "", "", 0⟩, ⟨ "Text", 9, 1, false, "", "", 8⟩, ⟨ "At", 3, 2, false, "", "", 24⟩] := by kernel_rfl
/-- '!=' between two tokens -/
theorem tok_neq (x y : Tok) (W : World) : (binOp .neq 30 (.agg #[.int .i64 x.1, .string ⟨x.2.1.toArray⟩, .int .i64 x.2.2]) (.agg #[.int .i64 y.1, .string ⟨y.2.1.toArray⟩, .int .i64 y.2.2])).run Tryd.prog W = .ok (.bool (!(decide (x = y)))) W := by
  rw [run_neq_struct, run_equalIn_struct W 9999 30 _ _ tok_u tok_s, tok_f]
  have h3 := Tryd.underlying3
  have h9 := Tryd.underlying9
  obtain ⟨a, b, c⟩ := x
  obtain ⟨a', b', c'⟩ := y
  by_cases k1 : a = a' <;> by_cases k2 : b = b' <;> by_cases k3 : c = c' <;> simp [go_sem, h3, h9, k1, k2, k3]
  all_goals (intros; omega)

set_option maxHeartbeats 1000000 in
theorem same_any (v1 v2 : Value) (a b : List Tok) (w : World) (h1 : Toks w v1 a) (h2 : Toks w v2 b) (hla : a.length ≤ 1000000) (hlb : b.length ≤ 1000000) :
    Calls Tryd.prog 13 #[v1, v2] w fun e w' => e = .returned (.bool (decide (a = b))) ∧ ∃ n, w' = w.drewN n := by
  obtain ⟨A, ca, rfl, hca, HA⟩ := h1
  obtain ⟨B, cb, rfl, hcb, HB⟩ := h2
  have HA' := Lib.hid HA
  have HB' := Lib.hid HB
  clear HA HB
  by_cases hl : a.length = b.length
  · have hb1 : ((a.length : Int) != (b.length : Int)) = false := by simp; omega
    have HL := Lib.hid hl
    clear hl
    go_enter Tryd.func13, Tryd.ntmps13
    go_wp2_with fail
    go_loopg [5] a.length (fun g x wx => ∃ i n : Nat, w.drewN n = wx ∧ i ≤ a.length ∧ g = a.length - i ∧ Hid (a.take i = b.take i) ∧ x = .int .i64 i)
    case atStart => exact ⟨0, 0, rfl, by omega, rfl, Lib.hid rfl, rfl⟩
    case round =>
      obtain ⟨i, n, rfl, hi, rfl, HI, rfl⟩ := hrel
      by_cases hlt : i < a.length
      · have hlt' : i < b.length := by have := HL.out; omega
        obtain ⟨x, hx⟩ : ∃ x, a[i]? = some x := ⟨_, List.getElem?_eq_getElem hlt⟩
        obtain ⟨y, hy⟩ : ∃ y, b[i]? = some y := ⟨_, List.getElem?_eq_getElem hlt'⟩
        obtain ⟨ga, oa, rfl, _, hxa⟩ := HA'.out (by intro e; subst e; simp at hlt)
        obtain ⟨gb, ob, rfl, _, hxb⟩ := HB'.out (by intro e; subst e; simp at hlt')
        obtain ⟨a0, a1, a2⟩ := hxa i x hx
        obtain ⟨b0, b1, b2⟩ := hxb i y hy
        clear hxa hxb
        have HX := Lib.hid hx
        have HY := Lib.hid hy
        clear hx hy
        have hne := tok_neq x y
        by_cases hxy : x = y
        · have hd : decide (x = y) = true := by simp [hxy]
          have HXY := Lib.hid hxy
          clear hxy
          rw [hd] at hne
          clear hd
          go_wp2_with fail
          go_quiet (fail)
          clear hne
          go_wp2_with fail
          go_roundg (a.length - (i + 1))
          case measure => omega
          case rel =>
            refine ⟨i + 1, _, (by first | rfl | exact (World.drewN_drewN ..)), by omega, rfl, Lib.hid ?_, by go_num⟩
            have e1 := HX.out
            have e2 := HY.out
            rw [HXY.out] at e1
            rw [List.take_add_one, List.take_add_one, HI.out, e1, e2]
        · have hd : decide (x = y) = false := by simp [hxy]
          have HXY := Lib.hid hxy
          clear hxy
          rw [hd] at hne
          clear hd
          go_wp2_with fail
          go_quiet (fail)
          clear hne
          go_wp2_with fail
          go_ret
          refine ⟨ret_bool (a := false) ?_, _, (by first | rfl | exact (World.drewN_drewN ..))⟩
          symm
          rw [decide_eq_false_iff_not]
          rintro rfl
          have e1 := HX.out
          have e2 := HY.out
          rw [e1] at e2
          exact HXY.out (Option.some.inj e2)
      · have hge : a.length ≤ i := by omega
        go_wp2_with fail
        go_ret
        refine ⟨ret_bool (a := true) ?_, n, rfl⟩
        symm
        rw [decide_eq_true_eq]
        have e := HI.out
        rw [List.take_of_length_le hge, List.take_of_length_le (by have := HL.out; omega)] at e
        exact e
  · have hb1 : ((a.length : Int) != (b.length : Int)) = true := by simp; omega
    have HL := Lib.hid hl
    clear hl
    go_enter Tryd.func13, Tryd.ntmps13
    go_wp2_with fail
    go_ret
    refine ⟨ret_bool (a := false) ?_, 0, rfl⟩
    symm
    rw [decide_eq_false_iff_not]
    rintro rfl
    exact HL.out rfl
end Go.Proofs.YtfgngakdhedcgaaDoor
