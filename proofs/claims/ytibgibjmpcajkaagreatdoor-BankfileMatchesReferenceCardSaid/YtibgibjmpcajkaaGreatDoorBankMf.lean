/- Slices of payments and of answers, opened. -/
import Derived.Test.YtibgibjmpcajkaaGreatDoorBankFr
namespace Go.Proofs.YtibgibjmpcajkaaGreatDoor
open Go.ChangeShapes Go.WideShapes Go.ChangeAt Go.RowKit BankS

theorem open_rows {α H : Type} {enc : TypeId × Value → H} {W : World} {v : Value} {d : DataW H} {p : List MemPlace} {fuel : Nat} (f : α → List Value) (c : Nat) (hc : 0 < c) (hf : ∀ a, (f a).length = c) (ok : α → Prop) (ts te : TypeId) (hu : Tryz.prog.underlying ts = some (.slice te)) (hce : Tryz.prog.cellsOf te = c) (dflt : α)
    (helem : ∀ fuel cs x, DataW.trod enc Tryz.prog W 0 (fun _ => true) true fuel te cs = some x → ∃ y : α, ok y ∧ cs = f y)
    (h : DataW.trod enc Tryz.prog W 0 (fun _ => true) true fuel ts v.cells.toList = some (d, p)) (hv : ∃ A len cap, v = .slice A len cap) :
    ∃ l : List α, Rd f c W v l ∧ (∀ x ∈ l, ok x) ∧ l.length ≤ 9223372036854775807 := by
  obtain ⟨A, len, cap, rfl⟩ := hv
  rcases Go.Deep.open_slice hu h with ⟨hcs, _⟩ | ⟨a, len', cap', m, n, D, Pl, hcs, _, hl, hm, hmm, _, hi⟩
  · simp [Value.cells] at hcs
    obtain ⟨rfl, rfl, rfl⟩ := hcs
    exact ⟨[], ⟨none, 0, rfl, by simp, by simp [cellsL], fun h0 => by simp at h0⟩, by simp, by simp⟩
  · simp [Value.cells] at hcs
    obtain ⟨rfl, rfl, rfl⟩ := hcs
    have hm' : len ≤ m := by rw [hmm]; simp; exact hl
    have hex : ∀ i : Nat, ∃ x : α, i < len → ok x ∧ ∀ (j : Nat) u, (f x)[j]? = some u → W.cell? ⟨a.block, a.off + (i * c + j), none⟩ = some u := by
      intro i
      by_cases hil : i < len
      · obtain ⟨cs', hc', ht⟩ := hi i (by omega)
        rw [hce] at hc'
        obtain ⟨_, hcl, hat⟩ := World.cells?_some hc'
        obtain ⟨y, hy, rfl⟩ := helem _ _ _ ht
        refine ⟨y, fun _ => ⟨hy, ?_⟩⟩
        have hadd : ∀ j, j < c → (a.add (i * c)).add j = ⟨a.block, a.off + (i * c + j), none⟩ := by
          intro j hj
          by_cases hz : i * c + j = 0
          · have e1 : i * c = 0 := by omega
            have e2 : j = 0 := by omega
            have h0 := hat 0 (by omega)
            rw [List.getElem?_eq_getElem (by rw [hf]; exact hc)] at h0
            have h1 : (a.add (i * c)).add 0 = a := by simp [Addr.add, e1]
            rw [h1] at h0
            rw [e2, h1]
            exact (spot_none h0).trans (by simp)
          · rw [Go.Deep.add_add]
            simp only [Addr.add]
            rw [if_neg hz]
        intro j u hj
        have hjc : j < c := by have := (List.getElem?_eq_some_iff.1 hj).1; rw [hf] at this; exact this
        rw [← hadd j hjc, hat j hjc, ← hj]
      · exact ⟨dflt, fun h => absurd h hil⟩
    obtain ⟨g, hg⟩ := Classical.axiomOfChoice hex
    have hll : ((List.range len).map g).length = len := by simp
    refine ⟨(List.range len).map g, ⟨some a, cap, by rw [hll], by rw [hll]; exact hl, by rw [cellsL_len f c hf], fun h0 => ?_⟩, ?_, by rw [hll]; unfold maxLen at hm; omega⟩
    · rw [hll] at h0
      have hfl := (hg 0 h0).2 0 _ (List.getElem?_eq_getElem (by rw [hf]; exact hc))
      have hblk : a.block < W.heap.size := by
        have h1 := World.block_lt_of_cell? W _ hfl
        exact h1
      have ha : a = ⟨a.block, a.off, none⟩ := by
        obtain ⟨i0, hi0⟩ : ∃ i0 : Nat, i0 = 0 := ⟨0, rfl⟩
        obtain ⟨cs', hc', _⟩ := hi i0 (by omega)
        rw [hce, hi0] at hc'
        obtain ⟨_, hcl, hat⟩ := World.cells?_some hc'
        have h1 := hat 0 (by omega)
        have h2 : ((a.add (0 * c)).add 0) = a := by simp [Addr.add]
        rw [h2, List.getElem?_eq_getElem (by omega)] at h1
        exact spot_none h1
      refine ⟨a.block, a.off, congrArg some ha, hblk, fun idx u hu' => ?_⟩
      have hlt : idx < len * c := by
        have := (List.getElem?_eq_some_iff.1 hu').1
        rw [cellsL_len f c hf, hll] at this
        exact this
      have hlt2 : idx / c < len := (Nat.div_lt_iff_lt_mul hc).2 hlt
      have hdm : idx / c * c + idx % c = idx := Nat.div_add_mod' idx c
      have hx : ((List.range len).map g)[idx / c]? = some (g (idx / c)) := by simp [hlt2]
      have hjl : idx % c < (f (g (idx / c))).length := by rw [hf]; exact Nat.mod_lt _ hc
      have hcell := cellsL_at f c hf _ (idx / c) (idx % c) _ _ hx (List.getElem?_eq_getElem hjl)
      rw [hdm, hu'] at hcell
      have := (hg (idx / c) hlt2).2 (idx % c) u (by rw [List.getElem?_eq_getElem hjl, ← hcell])
      rw [hdm] at this
      exact this
    · intro x hx
      obtain ⟨i, hi', rfl⟩ := List.mem_map.1 hx
      exact (hg i (List.mem_range.1 hi')).1
theorem cellsPay : Tryz.prog.cellsOf 27 = 4 := by kernel_rfl
theorem cellsAns : Tryz.prog.cellsOf 54 = 5 := by kernel_rfl
theorem elem_pay {H : Type} {enc : TypeId × Value → H} {W : World} (fuel : Nat) (cs : List Value) (x : DataW H × List MemPlace) (h : DataW.trod enc Tryz.prog W 0 (fun _ => true) true fuel 27 cs = some x) : ∃ y : Pay, True ∧ cs = payC y := by
  obtain ⟨xs, n, _, _, hl, hlen, hf⟩ := DataW.trod_struct Tryz.underlying27 h
  rw [cellsPay] at hl
  have hx : ∀ j, j < 4 → ∃ y, xs[j]? = some y := fun j hj => ⟨_, List.getElem?_eq_getElem (by rw [hlen]; exact hj)⟩
  have h0 := hf 0 _ rfl
  obtain ⟨y0, e0⟩ := hx 0 (by omega)
  rw [e0] at h0
  obtain ⟨z0, q0, _⟩ := DataW.trod_int Tryz.underlying3 h0
  have p0 : List.take (Tryz.prog.cellsOf 3) (List.drop 0 cs) = [.int .i64 z0] := q0
  rw [cells2] at p0
  clear h0 q0 e0
  have h1 := hf 1 _ rfl
  obtain ⟨y1, e1⟩ := hx 1 (by omega)
  rw [e1] at h1
  obtain ⟨z1, q1, _⟩ := DataW.trod_string Tryz.underlying9 h1
  have p1 : List.take (Tryz.prog.cellsOf 9) (List.drop 1 cs) = [.string z1] := q1
  rw [cells3] at p1
  clear h1 q1 e1
  have h2 := hf 2 _ rfl
  obtain ⟨y2, e2⟩ := hx 2 (by omega)
  rw [e2] at h2
  obtain ⟨z2, q2, _⟩ := DataW.trod_int Tryz.underlying3 h2
  have p2 : List.take (Tryz.prog.cellsOf 3) (List.drop 2 cs) = [.int .i64 z2] := q2
  rw [cells2] at p2
  clear h2 q2 e2
  have h3 := hf 3 _ rfl
  obtain ⟨y3, e3⟩ := hx 3 (by omega)
  rw [e3] at h3
  obtain ⟨z3, q3, _⟩ := DataW.trod_int Tryz.underlying3 h3
  have p3 : List.take (Tryz.prog.cellsOf 3) (List.drop 3 cs) = [.int .i64 z3] := q3
  rw [cells2] at p3
  clear h3 q3 e3
  clear hf hx
  match cs, hl with
  | [a0, a1, a2, a3], _ =>
    obtain rfl : a0 = _ := by simpa using p0
    obtain rfl : a1 = _ := by simpa using p1
    obtain rfl : a2 = _ := by simpa using p2
    obtain rfl : a3 = _ := by simpa using p3
    exact ⟨(z0, L z1, z2, z3), trivial, rfl⟩
theorem elem_ans {H : Type} {enc : TypeId × Value → H} {W : World} (fuel : Nat) (cs : List Value) (x : DataW H × List MemPlace) (h : DataW.trod enc Tryz.prog W 0 (fun _ => true) true fuel 54 cs = some x) : ∃ y : Ans, True ∧ cs = ansC y := by
  obtain ⟨xs, n, _, _, hl, hlen, hf⟩ := DataW.trod_struct Tryz.underlying54 h
  rw [cellsAns] at hl
  have hx : ∀ j, j < 5 → ∃ y, xs[j]? = some y := fun j hj => ⟨_, List.getElem?_eq_getElem (by rw [hlen]; exact hj)⟩
  have h0 := hf 0 _ rfl
  obtain ⟨y0, e0⟩ := hx 0 (by omega)
  rw [e0] at h0
  obtain ⟨z0, q0, _⟩ := DataW.trod_int Tryz.underlying3 h0
  have p0 : List.take (Tryz.prog.cellsOf 3) (List.drop 0 cs) = [.int .i64 z0] := q0
  rw [cells2] at p0
  clear h0 q0 e0
  have h1 := hf 1 _ rfl
  obtain ⟨y1, e1⟩ := hx 1 (by omega)
  rw [e1] at h1
  obtain ⟨z1, q1, _⟩ := DataW.trod_int Tryz.underlying3 h1
  have p1 : List.take (Tryz.prog.cellsOf 3) (List.drop 1 cs) = [.int .i64 z1] := q1
  rw [cells2] at p1
  clear h1 q1 e1
  have h2 := hf 2 _ rfl
  obtain ⟨y2, e2⟩ := hx 2 (by omega)
  rw [e2] at h2
  obtain ⟨z2, q2, _⟩ := DataW.trod_int Tryz.underlying3 h2
  have p2 : List.take (Tryz.prog.cellsOf 3) (List.drop 2 cs) = [.int .i64 z2] := q2
  rw [cells2] at p2
  clear h2 q2 e2
  have h3 := hf 3 _ rfl
  obtain ⟨y3, e3⟩ := hx 3 (by omega)
  rw [e3] at h3
  obtain ⟨z3, q3, _⟩ := DataW.trod_int Tryz.underlying3 h3
  have p3 : List.take (Tryz.prog.cellsOf 3) (List.drop 3 cs) = [.int .i64 z3] := q3
  rw [cells2] at p3
  clear h3 q3 e3
  have h4 := hf 4 _ rfl
  obtain ⟨y4, e4⟩ := hx 4 (by omega)
  rw [e4] at h4
  obtain ⟨z4, q4, _⟩ := DataW.trod_int Tryz.underlying3 h4
  have p4 : List.take (Tryz.prog.cellsOf 3) (List.drop 4 cs) = [.int .i64 z4] := q4
  rw [cells2] at p4
  clear h4 q4 e4
  clear hf hx
  match cs, hl with
  | [a0, a1, a2, a3, a4], _ =>
    obtain rfl : a0 = _ := by simpa using p0
    obtain rfl : a1 = _ := by simpa using p1
    obtain rfl : a2 = _ := by simpa using p2
    obtain rfl : a3 = _ := by simpa using p3
    obtain rfl : a4 = _ := by simpa using p4
    exact ⟨(z0, z1, z2, z3, z4), trivial, rfl⟩
theorem open_pays {H : Type} {enc : TypeId × Value → H} {W : World} {v : Value} {d : DataW H} {p : List MemPlace} {fuel : Nat} (h : DataW.trod enc Tryz.prog W 0 (fun _ => true) true fuel 22 v.cells.toList = some (d, p)) (hv : ∃ A len cap, v = .slice A len cap) :
    ∃ l : List Pay, Rd payC 4 W v l ∧ (∀ x ∈ l, True) ∧ l.length ≤ 9223372036854775807 :=
  open_rows payC 4 (by decide) (fun _ => rfl) (fun _ => True) _ _ Tryz.underlying22 cellsPay (0, [], 0, 0) elem_pay h hv
theorem open_anss {H : Type} {enc : TypeId × Value → H} {W : World} {v : Value} {d : DataW H} {p : List MemPlace} {fuel : Nat} (h : DataW.trod enc Tryz.prog W 0 (fun _ => true) true fuel 23 v.cells.toList = some (d, p)) (hv : ∃ A len cap, v = .slice A len cap) :
    ∃ l : List Ans, Rd ansC 5 W v l ∧ (∀ x ∈ l, True) ∧ l.length ≤ 9223372036854775807 :=
  open_rows ansC 5 (by decide) (fun _ => rfl) (fun _ => True) _ _ Tryz.underlying23 cellsAns (0, 0, 0, 0, 0) elem_ans h hv
end Go.Proofs.YtibgibjmpcajkaaGreatDoor
