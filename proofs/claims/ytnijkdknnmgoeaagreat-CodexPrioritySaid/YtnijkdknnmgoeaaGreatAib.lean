/- Scalars: operators, conversions; slices of slices and strings; lengths; choices. -/
import Derived.Test.YtnijkdknnmgoeaaGreatAia
import Derived.IntWalk
namespace AI
open Go Go.RowKit

def toSc : AV → Option Value
  | .sc v => some v
  | _ => none
def toScs : List AV → Option (List Value)
  | [] => some []
  | a :: as => match toSc a, toScs as with
    | some v, some vs => some (v :: vs)
    | _, _ => none
def toVal : AV → Option Value
  | .sc v => some v
  | .agg cs => (toScs cs).map fun l => .agg l.toArray
  | _ => none
theorem toSc_ok {c : Cx} {w : World} {a : AV} {v u : Value} (h : toSc a = some v) (ha : Rp c w a u) : u = v := by
  unfold toSc at h
  split at h
  · cases h; cases ha; rfl
  · cases h
theorem toScs_ok {c : Cx} {w : World} {as : List AV} {vs us : List Value} (h : toScs as = some vs) (ha : RpL c w as us) : us = vs := by
  induction as generalizing vs us with
  | nil => simp [toScs] at h; subst h; cases ha; rfl
  | cons a as ih =>
    simp only [toScs] at h
    split at h
    · rename_i v vs' h1 h2
      cases h
      cases ha with
      | cons p q => rw [toSc_ok h1 p, ih h2 q]
    · cases h
theorem toVal_ok {c : Cx} {w : World} {a : AV} {v u : Value} (h : toVal a = some v) (ha : Rp c w a u) : u = v := by
  unfold toVal at h
  split at h
  · cases h; cases ha; rfl
  · rename_i cs
    cases hc : toScs cs with
    | none => rw [hc] at h; cases h
    | some l =>
      rw [hc] at h; cases h
      cases ha with
      | agg hr => rw [toScs_ok hc hr]
  · cases h
def scal (v : Value) : Option AV := if scalar v then some (.sc v) else none
theorem scal_ok {v : Value} {a : AV} (h : scal v = some a) (c : Cx) (w : World) : Rp c w a v := by
  unfold scal at h
  split at h
  · rename_i hs; cases h; exact .sc hs
  · cases h
/-- an operator on strings -/
def astr (op : BinOp) (x y : ByteArray) : Option Value :=
  match op with
  | .add => if x.data.toList.length + y.data.toList.length ≤ 9223372036854775807 then some (.string ⟨(x.data.toList ++ y.data.toList).toArray⟩) else none
  | .eql => some (.bool (x.data.toList == y.data.toList))
  | .neq => some (.bool (!(x.data.toList == y.data.toList)))
  | .lss => some (.bool (Op.bytesLess x.data.toList y.data.toList))
  | .leq => some (.bool (Op.bytesLess x.data.toList y.data.toList || x.data.toList == y.data.toList))
  | .gtr => some (.bool (!(Op.bytesLess x.data.toList y.data.toList || x.data.toList == y.data.toList)))
  | .geq => some (.bool (!(Op.bytesLess x.data.toList y.data.toList)))
  | _ => none
def abin (P : Program) (op : BinOp) (t : TypeId) (xo yo : Operand) (a b : AV) : Option AV :=
  match a, b with
  | .sc (.string x), .sc (.string y) => (astr op x y).bind scal
  | a, b => match toVal a, toVal b with
    | some u, some v => (pv P (do eqGuard op t xo yo u v; binOp op t u v)).bind scal
    | _, _ => none
theorem append_bytes (x y : ByteArray) : x ++ y = ⟨(x.data.toList ++ y.data.toList).toArray⟩ := by
  apply ByteArray.ext
  simp
theorem abin_ok {P : Program} {c : Cx} {w : World} {op : BinOp} {t : TypeId} {xo yo : Operand} {a b r : AV} {u v : Value} (h : abin P op t xo yo a b = some r) (ha : Rp c w a u) (hb : Rp c w b v) (w0 : World) :
    ∃ z, (do eqGuard op t xo yo u v; binOp op t u v : Sem Value).run P w0 = .ok z w0 ∧ Rp c w r z := by
  unfold abin at h
  split at h
  · rename_i x y
    cases ha; cases hb
    cases hs : astr op x y with
    | none => rw [hs] at h; cases h
    | some z =>
      rw [hs, Option.bind_some] at h
      refine ⟨z, ?_, scal_ok h c w⟩
      have hl1 : x.data.toList.length = x.size := by simp
      have hl2 : y.data.toList.length = y.size := by simp
      unfold astr at hs
      split at hs
      · split at hs
        · rename_i hle
          cases hs
          rw [hl1, hl2] at hle
          have : ¬ ((x.size + y.size : Nat) : Int) > IntKind.i64.max := by
            show ¬ ((x.size + y.size : Nat) : Int) > 9223372036854775807
            omega
          simp [eqGuard, binOp, Op.stringOp, append_bytes]
          omega
        · cases hs
      all_goals first
        | (cases hs; simp [eqGuard, binOp, Op.stringOp, ByteArray.toList_eq]; done)
        | (cases hs; done)
  · split at h
    · rename_i u' v' h1 h2
      have e1 := toVal_ok h1 ha
      have e2 := toVal_ok h2 hb
      subst e1 e2
      cases hp : pv P (do eqGuard op t xo yo u v; binOp op t u v) with
      | none => rw [hp] at h; cases h
      | some z =>
        rw [hp, Option.bind_some] at h
        exact ⟨z, pv_run _ hp w0, scal_ok h c w⟩
    · cases h
/-- whatever asks nothing of memory, on scalars -/
def apure (P : Program) (s : Sem Value) : Option AV := (pv P s).bind scal
theorem apure_ok {P : Program} {s : Sem Value} {r : AV} (h : apure P s = some r) (c : Cx) (w w0 : World) : ∃ z, s.run P w0 = .ok z w0 ∧ Rp c w r z := by
  unfold apure at h
  cases hp : pv P s with
  | none => rw [hp] at h; cases h
  | some z =>
    rw [hp, Option.bind_some] at h
    exact ⟨z, pv_run _ hp w0, scal_ok h c w⟩

/-- a bound of a slice expression -/
def abound (d : Nat) : Option AV → Option Nat
  | none => some d
  | some a => anat a
inductive RO (c : Cx) (w : World) : Option AV → Option Value → Prop where
  | none : RO c w none none
  | some {a : AV} {v : Value} (h : Rp c w a v) : RO c w (some a) (some v)
def aslice (P : Program) (t : TypeId) (x : AV) (lo hi mx : Option AV) : Option AV :=
  match P.underlying t with
  | some .string => match x with
    | .sc (.string s) => match mx, abound 0 lo, abound s.data.toList.length hi with
      | none, some l, some h => if l ≤ h ∧ h ≤ s.data.toList.length then some (.sc (.string ⟨((s.data.toList.drop l).take (h - l)).toArray⟩)) else none
      | _, _, _ => none
    | _ => none
  | some (.slice elem) => match P.info? elem, x with
    | some e, .sl own n cs => match abound 0 lo, abound n hi with
      | some l, some h => if l ≤ h ∧ h ≤ n ∧ cs.length = n * e.size then
          (match mx with
          | none => some (.sl (if l = 0 ∧ h = n then own else if h = n ∧ own = .full then .full else .lost) (h - l) ((cs.drop (l * e.size)).take ((h - l) * e.size)))
          | some m => match anat m with
            | some m => if h = m ∧ hi.isSome = true then some (.sl .full (h - l) ((cs.drop (l * e.size)).take ((h - l) * e.size))) else none
            | none => none)
        else none
      | _, _ => none
    | _, _ => none
  | _ => none
/-- a bound that is given, or the default -/
def BoundIs (d : Nat) (o : Option Value) (n : Nat) : Prop := (o = none ∧ n = d) ∨ ∃ k i, o = some (.int k i) ∧ 0 ≤ i ∧ i.toNat = n
theorem abound_ok {c : Cx} {w : World} {d n : Nat} {a : Option AV} {v : Option Value} (h : abound d a = some n) (ha : RO c w a v) : BoundIs d v n := by
  cases ha with
  | none => simp [abound] at h; exact .inl ⟨rfl, h.symm⟩
  | some h1 =>
    obtain ⟨k, i, rfl, h2, h3⟩ := anat_ok h h1
    exact .inr ⟨k, i, rfl, h2, h3⟩
theorem run_bound {P : Program} (k : IntKind) (i : Int) (y : Nat) (code : BoundsCode) (w : World) (h0 : 0 ≤ i) (h1 : i.toNat ≤ y) : (Instr.sliceBound (.int k i) y code).run P w = .ok i.toNat w := by
  have : i ≤ (y : Int) := by omega
  simp [Instr.sliceBound, asIntOf, h0, this]
theorem run_bounds {P : Program} {isSlice : Bool} {len cap l h : Nat} {lo hi : Option Value} (hlo : BoundIs 0 lo l) (hhi : BoundIs len hi h) (hle : l ≤ h) (hh : h ≤ cap) (w : World) :
    (Instr.sliceBounds isSlice len cap lo hi none).run P w = .ok (l, h, cap) w := by
  rcases hlo with ⟨rfl, rfl⟩ | ⟨k, i, rfl, hi0, rfl⟩ <;> rcases hhi with ⟨rfl, rfl⟩ | ⟨k', i', rfl, hi0', rfl⟩
  · simp [Instr.sliceBounds]
  · simp [Instr.sliceBounds, run_bound k' i' cap _ w hi0' hh]
  · simp [Instr.sliceBounds, run_bound k i h _ w hi0 hle]
  · simp [Instr.sliceBounds, run_bound k' i' cap _ w hi0' hh, run_bound k i _ _ w hi0 hle]
theorem run_bounds3 {P : Program} {isSlice : Bool} {len cap l h : Nat} {lo hi : Option Value} {k : IntKind} {j : Int} (hlo : BoundIs 0 lo l) (hhi : ∃ k i, hi = some (.int k i) ∧ 0 ≤ i ∧ i.toNat = h) (hle : l ≤ h) (hj : 0 ≤ j) (hh : h ≤ j.toNat) (hc : j.toNat ≤ cap) (w : World) :
    (Instr.sliceBounds isSlice len cap lo hi (some (.int k j))).run P w = .ok (l, h, j.toNat) w := by
  obtain ⟨k', i', rfl, hi0', rfl⟩ := hhi
  rcases hlo with ⟨rfl, rfl⟩ | ⟨k2, i, rfl, hi0, rfl⟩
  · simp [Instr.sliceBounds, run_bound k j cap _ w hj hc, run_bound k' i' _ _ w hi0' hh]
  · simp [Instr.sliceBounds, run_bound k j cap _ w hj hc, run_bound k' i' _ _ w hi0' hh, run_bound k2 i _ _ w hi0 hle]
theorem take_nil {c : Cx} {w : World} {g o : Nat} {cs : List AV} (l n : Nat) (h : CellsAt c w g o cs) : CellsAt c w g (o + l) ((cs.drop l).take n) := (h.drop l).take n
theorem aslice_ok {P : Program} {c : Cx} {w : World} {t : TypeId} {x r : AV} {lo hi mx : Option AV} {v : Value} {lo' hi' mx' : Option Value} (h : aslice P t x lo hi mx = some r) (hx : Rp c w x v) (hlo : RO c w lo lo') (hhi : RO c w hi hi') (hmx : RO c w mx mx') :
    ∃ u, (Instr.sliceAt t v lo' hi' mx').run P w = .ok u w ∧ Rp c w r u := by
  unfold aslice at h
  split at h
  · rename_i hu
    split at h
    · rename_i s
      split at h
      · rename_i l hh e1 e2
        split at h
        · rename_i hc
          cases h
          cases hx; cases hmx
          have b1 := abound_ok e1 hlo
          have b2 := abound_ok e2 hhi
          rw [show s.data.toList.length = s.size from by simp] at b2 hc
          refine ⟨_, ?_, .sc rfl⟩
          simp only [Instr.sliceAt, Sem.run_bind, run_underlying hu, Result.andThen_ok, Instr.slice, Option.isSome_none, Bool.false_eq_true, if_false, run_bounds b1 b2 hc.1 hc.2, Sem.run_pure]
          congr 2
          apply ByteArray.ext
          apply Array.ext'
          rw [Lib.extract_data]
        · cases h
      · cases h
    · cases h
  · rename_i elem hu
    split at h
    · rename_i e own n cs he
      split at h
      · rename_i l hh e1 e2
        split at h
        · rename_i hc
          have b1 := abound_ok e1 hlo
          have b2 := abound_ok e2 hhi
          have hrun : ∀ (A : Option Addr) (cap : Nat), n ≤ cap → mx' = none → (Instr.sliceAt t (.slice A n cap) lo' hi' mx').run P w = .ok (.slice (if cap = l then A else A.map (·.add (l * e.size))) (hh - l) (cap - l)) w := by
            intro A cap hcap hm
            subst hm
            simp only [Instr.sliceAt, Sem.run_bind, run_underlying hu, Result.andThen_ok, Instr.slice, run_bounds b1 b2 hc.1 (Nat.le_trans hc.2.1 hcap), Sem.run_pure, run_sizeOf' he]
          split at h
          · cases h
            cases hmx
            cases hx with
            | sl0 h0 =>
              obtain ⟨rfl, rfl⟩ : l = 0 ∧ hh = 0 := by omega
              refine ⟨_, hrun _ _ (Nat.zero_le _) rfl, ?_⟩
              simp only [List.drop_nil, List.take_nil, Nat.sub_zero, if_true, and_self]
              exact .sl0 h0
            | sl1 hn hcs ho =>
              rename_i cap g o
              refine ⟨_, hrun _ _ hn rfl, ?_⟩
              by_cases hall : l = 0 ∧ hh = n
              · obtain ⟨rfl, rfl⟩ := hall
                simp only [Nat.zero_mul, List.drop_zero, Nat.sub_zero, and_self, if_true]
                rw [List.take_of_length_le (by rw [hc.2.2]; exact Nat.le_refl _)]
                have : (if cap = 0 then some (⟨g, o, none⟩ : Addr) else Option.map (fun x : Addr => x.add 0) (some ⟨g, o, none⟩)) = some ⟨g, o, none⟩ := by
                  split
                  · rfl
                  · simp [Addr.add]
                rw [this]
                exact .sl1 hn hcs ho
              · rw [if_neg hall]
                by_cases hz : hh - l = 0
                · have hnil : ((cs.drop (l * e.size)).take ((hh - l) * e.size)) = [] := by rw [hz]; simp
                  rw [hnil, hz]
                  by_cases hf : hh = n ∧ own = .full
                  · rw [if_pos hf]
                    obtain ⟨rfl, rfl⟩ := hf
                    have : cap = hh := ho
                    exact .sl0 (by show cap - l = 0; omega)
                  · rw [if_neg hf]; exact .sl0 trivial
                · have hne : ¬ cap = l := by omega
                  rw [if_neg hne]
                  simp only [Option.map_some, add_lit]
                  refine .sl1 (by omega) ((hcs.drop _).take _) ?_
                  by_cases hf : hh = n ∧ own = .full
                  · rw [if_pos hf]
                    obtain ⟨rfl, rfl⟩ := hf
                    have : cap = hh := ho
                    show cap - l = hh - l
                    omega
                  · rw [if_neg hf]; trivial
          · rename_i m
            split at h
            · rename_i j hj
              split at h
              · rename_i hjm
                cases h
                obtain ⟨rfl, hsome⟩ := hjm
                cases hmx with
                | some hm =>
                  obtain ⟨k, z, rfl, hz0, hz1⟩ := anat_ok hj hm
                  have hi2 : ∃ k i, hi' = some (.int k i) ∧ 0 ≤ i ∧ i.toNat = hh := by
                    cases hhi with
                    | none => cases hsome
                    | some h1 =>
                      obtain ⟨k, i, rfl, h2, h3⟩ := anat_ok e2 h1
                      exact ⟨k, i, rfl, h2, h3⟩
                  have hrun3 : ∀ (A : Option Addr) (cap : Nat), n ≤ cap → (Instr.sliceAt t (.slice A n cap) lo' hi' (some (.int k z))).run P w = .ok (.slice (if hh = l then A else A.map (·.add (l * e.size))) (hh - l) (hh - l)) w := by
                    intro A cap hcap
                    simp only [Instr.sliceAt, Sem.run_bind, run_underlying hu, Result.andThen_ok, Instr.slice, run_bounds3 b1 hi2 hc.1 hz0 (Nat.le_of_eq hz1.symm) (by rw [hz1]; exact Nat.le_trans hc.2.1 hcap), Sem.run_pure, run_sizeOf' he]
                    rw [hz1]
                  cases hx with
                  | sl0 h0 =>
                    obtain ⟨rfl, rfl⟩ : l = 0 ∧ hh = 0 := by omega
                    refine ⟨_, hrun3 _ _ (Nat.zero_le _), ?_⟩
                    simp only [List.drop_nil, List.take_nil, Nat.sub_zero, if_true]
                    exact .sl0 rfl
                  | sl1 hn hcs ho =>
                    refine ⟨_, hrun3 _ _ hn, ?_⟩
                    by_cases hz : hh - l = 0
                    · have hnil : ((cs.drop (l * e.size)).take ((hh - l) * e.size)) = [] := by rw [hz]; simp
                      rw [hnil, hz]
                      exact .sl0 rfl
                    · rw [if_neg (by omega)]
                      simp only [Option.map_some, add_lit]
                      exact .sl1 (Nat.le_refl _) ((hcs.drop _).take _) rfl
              · cases h
            · cases h
        · cases h
      · cases h
    · cases h
  · cases h
end AI
/- Appending. -/
namespace AI
open Go Go.RowKit

/-- what is appended -/
def asrc (P : Program) (s : AS) (size : Nat) (tx : TypeId) (b : AV) : Option (Nat × List AV) :=
  match P.underlying tx, b with
  | some (.slice _), .sl _ n cs => if cs.length = n * size then some (n, cs) else none
  | some (.slice _), .msl id off n => match s.get id with
    | some (.cells cs) => if off + n * size ≤ cs.length then some (n, (cs.drop off).take (n * size)) else none
    | _ => none
  | some .string, .sc (.string x) => if size = 1 then some (x.data.toList.length, x.data.toList.map fun b => .sc (.int .u8 b.toNat)) else none
  | _, _ => none
theorem bytes_rp (c : Cx) (w : World) (l : List UInt8) : RpL c w (l.map fun b => .sc (.int .u8 b.toNat)) (l.map fun b => .int .u8 b.toNat) := by
  induction l with
  | nil => exact .nil
  | cons b l ih => exact .cons (.sc rfl) ih
structure SrcIs (P : Program) (size : Nat) (tx : TypeId) (x : Value) (n : Nat) (news : List Value) (w : World) : Prop where
  kind : (∃ e', P.underlying tx = some (.slice e')) ∨ P.underlying tx = some .string
  len : ∀ w' : World, (Builtin.lenOf x).run P w' = .ok n w'
  cells : ∀ w' : World, w'.heap = w.heap → (Builtin.firstCells size n x).run P w' = .ok news.toArray w'
theorem asrc_ok {P : Program} {G : Glob} {c : Cx} {w : World} {s : AS} {size : Nat} {tx : TypeId} {b : AV} {x : Value} {n : Nat} {cs : List AV} (hs : St G c w s) (h : asrc P s size tx b = some (n, cs)) (hb : Rp c w b x) :
    ∃ news, RpL c w cs news ∧ news.length = n * size ∧ SrcIs P size tx x n news w := by
  unfold asrc at h
  split at h
  · rename_i e own n' cs' hu
    split at h
    · rename_i hl
      cases h
      cases hb with
      | @sl0 _ A cap _ =>
        refine ⟨[], .nil, by simp, .inl ⟨_, hu⟩, fun _ => rfl, fun w' _ => ?_⟩
        cases A with
        | none => simp [Builtin.firstCells]
        | some a => simp [Builtin.firstCells, loadCells, loadCellsFrom]
      | sl1 hn hc ho =>
        obtain ⟨vs, hr, hvis⟩ := hc.vals
        have hlv := hr.len
        refine ⟨vs, hr, by omega, .inl ⟨_, hu⟩, fun _ => rfl, fun w' hw => ?_⟩
        refine run_firstCells_some w' size n _ n _ vs (by omega) (fun j v hj => ?_)
        rw [add_lit]
        have := (hvis j v hj).2.2
        rw [World.cell?_of_block (w := w) (by rw [hw])]
        exact this
    · cases h
  · rename_i e id off n' hu
    split at h
    · rename_i cs' hb'
      split at h
      · rename_i hl
        cases h
        cases hb with
        | msl hn hid =>
          obtain ⟨vs, T, hw, hr⟩ := box_cells hs hid hb'
          have hlv := hr.len
          have hll : ((vs.drop off).take (n * size)).length = n * size := by rw [List.length_take, List.length_drop]; omega
          refine ⟨(vs.drop off).take (n * size), (hr.drop off).take _, hll, .inl ⟨_, hu⟩, fun _ => rfl, fun w' hw' => ?_⟩
          refine run_firstCells_some w' size n _ n _ _ hll (fun j v hj => ?_)
          rw [add_lit]
          have hj2 : vs[off + j]? = some v := by
            rw [List.getElem?_take] at hj
            split at hj
            · rw [List.getElem?_drop] at hj; exact hj
            · cases hj
          exact cell_of_heap (by rw [hw']; exact hw) hj2
      · cases h
    · cases h
  · rename_i x' hu
    split at h
    · rename_i h1
      cases h
      cases hb
      subst h1
      refine ⟨_, bytes_rp c w _, by simp, .inr hu, fun _ => by simp [Builtin.lenOf], fun w' _ => ?_⟩
      simp only [Builtin.firstCells]
      rw [show x'.data.toList.length = x'.size from by simp]
      simp
      apply Array.ext'
      simp
    · cases h
  · cases h

def own1 (own : Own) (rows : List (Option (Nat × Nat × Nat))) : List (Option (Nat × Nat × Nat)) := match own with
  | .row r _ => rows.set r none
  | _ => rows
def own2 (own : Own) (F : List Nat) : List Nat := match own with
  | .row r _ => delN r F
  | _ => F
theorem own1_get {own : Own} {rows : List (Option (Nat × Nat × Nat))} {r : Nat} {x : Nat × Nat × Nat} (h : (own1 own rows)[r]? = some (some x)) : rows[r]? = some (some x) ∧ ∀ r' sz, own = .row r' sz → r ≠ r' := by
  unfold own1 at h
  split at h
  · rename_i r' sz
    by_cases e : r' = r
    · subst e
      rw [List.getElem?_set] at h
      simp at h
    · rw [List.getElem?_set_ne e] at h
      exact ⟨h, fun r'' sz' e' => by cases e'; exact fun x => e x.symm⟩
  · refine ⟨h, fun r' sz e => ?_⟩
    rename_i hne
    exact absurd e (hne r' sz)
theorem own2_get {own : Own} {F : List Nat} {r : Nat} (h : memN r (own2 own F) = true) : memN r F = true ∧ ∀ r' sz, own = .row r' sz → r ≠ r' := by
  unfold own2 at h
  split at h
  · rename_i r' sz
    have := memN_del h
    exact ⟨this.1, fun r'' sz' e' => by cases e'; exact this.2⟩
  · refine ⟨h, fun r' sz e => ?_⟩
    rename_i hne
    exact absurd e (hne r' sz)
theorem own1_len (own : Own) (rows : List (Option (Nat × Nat × Nat))) : (own1 own rows).length = rows.length := by unfold own1; split <;> simp
theorem own1_ne {own : Own} {rows : List (Option (Nat × Nat × Nat))} {r : Nat} (h : ∀ r' sz, own = .row r' sz → r ≠ r') : (own1 own rows)[r]? = rows[r]? := by
  unfold own1
  split
  · rename_i r' sz
    rw [List.getElem?_set_ne (fun e => h r' sz rfl e.symm)]
  · rfl
/-- a row more -/
def AS.row (s : AS) (own : Own) : AS := ⟨s.h, s.nx, s.nr :: own2 own s.F, s.nr + 1⟩

section
variable {G : Glob} {c : Cx} {w : World} {s : AS}
/-- a row more, the old one given up: its block g is new, or the old row's, of which only cells to grow into have changed -/
theorem St.row_new (h : St G c w s) {own : Own} {w' : World} {g lo hi : Nat} {vs : Array Value} {T : TypeId} (k : Chg w w' (fun x => x = g)) (hb : c.base ≤ g) (hp : some g ∉ c.phi) (hlh : lo ≤ hi) (hw : w'.heap[g]? = some (.cells vs T (0, 0))) (hsz : vs.size = hi)
    (hg : g = w.heap.size ∨ ∃ r sz lo0, own = .row r sz ∧ c.rows[r]? = some (some (g, lo0, hi)) ∧ lo0 ≤ lo ∧ ∀ i v, i < lo0 → w.cell? ⟨g, i, none⟩ = some v → vs[i]? = some v) :
    Ext c w { c with rows := own1 own c.rows ++ [some (g, lo, hi)] } w' ∧ St G { c with rows := own1 own c.rows ++ [some (g, lo, hi)] } w' (s.row own) := by
  have hglt : g < w'.heap.size := (Array.getElem?_eq_some_iff.1 hw).1
  have hrow : ∀ (r : Nat) x, (own1 own c.rows ++ [some (g, lo, hi)])[r]? = some (some x) → (c.rows[r]? = some (some x) ∧ ∀ r' sz, own = .row r' sz → r ≠ r') ∨ (r = c.rows.length ∧ x = (g, lo, hi)) := by
    intro r x hx
    by_cases hr : r < c.rows.length
    · rw [List.getElem?_append_left (by rw [own1_len]; exact hr)] at hx
      exact .inl (own1_get hx)
    · right
      have hl := (List.getElem?_eq_some_iff.1 hx).1
      simp [own1_len] at hl
      have hr2 : r = c.rows.length := by omega
      refine ⟨hr2, ?_⟩
      rw [hr2, ← own1_len own c.rows, List.getElem?_concat_length] at hx
      simpa using hx.symm
  have hother : ∀ (r : Nat) lo' hi', c.rows[r]? = some (some (g, lo', hi')) → ∃ sz, own = .row r sz := by
    intro r lo' hi' hr
    rcases hg with rfl | ⟨r0, sz, lo0, ho, hr0, _⟩
    · have := h.row_lt hr; omega
    · have := h.rdist r r0 g _ _ _ _ hr hr0
      subst this
      exact ⟨sz, ho⟩
  have e : Ext c w { c with rows := own1 own c.rows ++ [some (g, lo, hi)] } w' := by
    refine ⟨List.prefix_refl _, by simp [own1_len], fun r x hr hx => ?_, fun g' i v hv => ⟨Nat.lt_of_lt_of_le hv.1 k.size, fun hs => ?_, ?_⟩, k.below h.bsz (fun x hx => by rw [hx]; exact hb), rfl, rfl, fun _ h => .inl h, fun r g' lo' hi' hr => ?_, fun q hq _ hr => ?_⟩
    · rcases hrow r x hx with h1 | h1
      · exact h1.1
      · omega
    · rcases hs with hs | ⟨r, lo', hi', hr, h1, h2⟩ | hs
      · exact hv.2.1 (.inl hs)
      rotate_left
      · exact hv.2.1 (.inr (.inr hs))
      · rcases hrow r _ hr with h3 | h3
        · exact hv.2.1 (.inr (.inl ⟨r, lo', hi', h3.1, h1, h2⟩))
        · injection h3.2 with e1 e2
          injection e2 with e2 e3
          subst e1 e2 e3
          rcases hg with rfl | ⟨r0, sz, lo0, ho, hr0, hlo0, _⟩
          · have := hv.1; omega
          · exact hv.2.1 (.inr (.inl ⟨r0, lo0, hi', hr0, by omega, h2⟩))
    · by_cases hgg : g' = g
      · subst hgg
        rcases hg with rfl | ⟨r0, sz, lo0, ho, hr0, hlo0, hkeep⟩
        · have := hv.1; omega
        · have hi1 : i < lo0 := by
            by_cases hlt : i < lo0
            · exact hlt
            · exfalso
              obtain ⟨_, _, _, _, vs0, T0, hh0, hsz0⟩ := h.row r0 g' lo0 hi hr0
              have hc := hv.2.2
              have hns : ¬ i < hi := fun hlt2 => hv.2.1 (.inr (.inl ⟨r0, lo0, hi, hr0, by omega, hlt2⟩))
              simp [World.cell?, hh0] at hc
              have := (Array.getElem?_eq_some_iff.1 hc).1
              omega
          have := hkeep i v hi1 hv.2.2
          simp [World.cell?, hw, this]
      · rw [k.cell hv.1 hgg]; exact hv.2.2
    · rcases hrow r _ hr with ⟨h1, _⟩ | ⟨_, h1⟩
      · exact .inl ⟨r, lo', hi', h1⟩
      · injection h1 with e1 _
        subst e1
        rcases hg with rfl | ⟨r0, sz, lo0, _, hr0, _⟩
        · exact .inr (Nat.le_refl _)
        · exact .inl ⟨r0, lo0, _, hr0⟩
    · refine k.block q hq (fun e => ?_)
      subst e
      rcases hg with rfl | ⟨r0, sz, lo0, _, hr0, _⟩
      · omega
      · exact hr r0 _ _ hr0
  refine ⟨e, ⟨h.len, h.desc, h.nodup, h.low, fun id g' b' h1 h2 => ?_, by simp [AS.row, own1_len, h.rlen], fun r g' lo' hi' hr => ?_, fun r hr => ?_, fun g hg => Nat.lt_of_lt_of_le (h.plow g hg) k.size, fun g i hb => Nat.lt_of_lt_of_le (h.blow g i hb) k.size, fun r r' g' l1 h1 l2 h2 hr hr' => ?_, fun g' cs hg' => (h.glob g' cs hg').mono e, Nat.le_trans h.bsz k.size⟩⟩
  · obtain ⟨o', ho, hb'⟩ := h.box id g' b' h1 h2
    exact ⟨o', by rw [k.block g' (Array.getElem?_eq_some_iff.1 ho).1 (fun e => hp (by rw [← e]; exact List.mem_of_getElem? h1))]; exact ho, hb'.mono e⟩
  · rcases hrow r _ hr with ⟨h1, h2⟩ | ⟨rfl, h2⟩
    · obtain ⟨a1, a2, a3, a4, vs', T', ho, a5⟩ := h.row r g' lo' hi' h1
      have hne : ¬ g' = g := fun e => by
        subst e
        obtain ⟨sz, hsz⟩ := hother r lo' hi' h1
        exact h2 r sz hsz rfl
      exact ⟨a1, a2, a3, a4, vs', T', by rw [k.block g' (Array.getElem?_eq_some_iff.1 ho).1 hne]; exact ho, a5⟩
    · injection h2 with e1 e2
      injection e2 with e2 e3
      subst e1 e2 e3
      refine ⟨fun i hbad => ?_, hb, hp, hlh, vs, T, hw, hsz⟩
      rcases hg with rfl | ⟨r0, sz, lo0, ho, hr0, _⟩
      · have := h.blow _ i hbad; omega
      · exact (h.row r0 _ _ _ hr0).1 i hbad
  · simp only [AS.row, memN] at hr
    split at hr
    · rename_i hb'
      have hr3 : r = c.rows.length := by rw [← h.rlen]; exact (beq_true hb').symm
      refine ⟨(g, lo, hi), ?_⟩
      rw [hr3, ← own1_len own c.rows, List.getElem?_concat_length]
    · obtain ⟨h1, h2⟩ := own2_get hr
      obtain ⟨x, hx⟩ := h.rfree r h1
      refine ⟨x, ?_⟩
      rw [List.getElem?_append_left (by rw [own1_len]; exact (List.getElem?_eq_some_iff.1 hx).1), own1_ne h2]
      exact hx
  · rcases hrow r _ hr with ⟨h1', h2'⟩ | ⟨rfl, h2'⟩ <;> rcases hrow r' _ hr' with ⟨h3', h4'⟩ | ⟨rfl, h4'⟩
    · exact h.rdist r r' g' _ _ _ _ h1' h3'
    · injection h4' with e1 _
      subst e1
      obtain ⟨sz, hsz⟩ := hother r _ _ h1'
      exact absurd rfl (h2' r sz hsz)
    · injection h2' with e1 _
      subst e1
      obtain ⟨sz, hsz⟩ := hother r' _ _ h3'
      exact absurd rfl (h4' r' sz hsz)
    · rfl
end
end AI
/- Appending: what append does, in the two cases. -/
namespace AI
open Go Go.RowKit

theorem run_app_room {P : Program} {w : World} {t tx ty e : TypeId} {i : TypeInfo} (ht : P.underlying t = some (.slice e)) (hi : P.info? e = some i) {base : Option Addr} {n cap m : Nat} {x : Value} {news : List Value} (hs : SrcIs P i.size tx x m news w) (hroom : n + m ≤ cap) {w' : World}
    (hst : ∀ a, base = some a → (storeCells (a.add (n * i.size)) news).run P w = .ok () w') (hno : base = none → w' = w) :
    (Builtin.append_ #[t, tx] ty #[.slice base n cap, x]).run P w = .ok (.slice base (n + m) cap) w' := by
  have hc := hs.cells w rfl
  cases base with
  | none =>
    have := hno rfl
    subst this
    rcases hs.kind with ⟨e', hk⟩ | hk <;> simp [Builtin.append_, run_underlying ht, run_underlying hk, Go.sizeOf, typeInfo, hi, hs.len, hroom, hc]
  | some a =>
    have := hst a rfl
    rcases hs.kind with ⟨e', hk⟩ | hk <;> simp [Builtin.append_, run_underlying ht, run_underlying hk, Go.sizeOf, typeInfo, hi, hs.len, hroom, hc, this]
theorem run_app_grow {P : Program} {w : World} {t tx ty e : TypeId} {i : TypeInfo} {z : Value} (ht : P.underlying t = some (.slice e)) (hi : P.info? e = some i) (hz : i.zero = some z) {base : Option Addr} {n cap m : Nat} {x : Value} {olds news : List Value} (hs : SrcIs P i.size tx x m news w)
    (hold : (Builtin.firstCells i.size n (.slice base n cap)).run P { w with drawn := w.drawn + 1 } = .ok olds.toArray { w with drawn := w.drawn + 1 }) (hg : cap < n + m) (h63 : n + m ≤ 9223372036854775807) (hb : (n + m) * i.bytes ≤ 140737488355328) :
    ∃ cap', n + m ≤ cap' ∧ (Builtin.append_ #[t, tx] ty #[.slice base n cap, x]).run P w = .ok (.slice (some ⟨w.heap.size, 0, none⟩) (n + m) cap') { w with drawn := w.drawn + 1, heap := w.heap.push (.cells ((olds ++ news).toArray ++ Builtin.zeroCells z.cells (cap' - (n + m))) e) } := by
  have hn : ¬ (n + m ≤ cap) := by omega
  have h63' : ¬ (9223372036854775807 < ((n : Int) + (m : Int))) := by omega
  have hfit := growslice_fits hg hb
  have h48' : ¬ (281474976710656 < Builtin.nextslicecap (n + m) cap * i.bytes) := by omega
  have hc := hs.cells { w with drawn := w.drawn + 1 } rfl
  refine ⟨(Question.appendCap (n + m) cap e).cut (w.tape w.drawn (.appendCap (n + m) cap e)), by simp [Question.cut], ?_⟩
  have hc2 : (Builtin.firstCells i.size m x).run P w.drew = .ok news.toArray w.drew := hc
  have hold2 : (Builtin.firstCells i.size n (.slice base n cap)).run P w.drew = .ok olds.toArray w.drew := hold
  have harr : olds.toArray ++ (news.toArray ++ Builtin.zeroCells z.cells ((Question.appendCap (n + m) cap e).cut (w.tape w.drawn (.appendCap (n + m) cap e)) - (n + m))) = (olds ++ news).toArray ++ Builtin.zeroCells z.cells ((Question.appendCap (n + m) cap e).cut (w.tape w.drawn (.appendCap (n + m) cap e)) - (n + m)) := by
    apply Array.ext'
    simp
  rcases hs.kind with ⟨e', hk⟩ | hk <;>
    (simp [Builtin.append_, run_underlying ht, run_underlying hk, Go.sizeOf, typeInfo, zeroValue, hi, hz, hs.len, hn, h63', h48', Question.forced, hc2, hold2, newRow]
     rw [harr]
     rfl)
def okOwn (sz : Nat) (F : List Nat) : Own → Bool
  | .full => true
  | .row r z => z == sz && memN r F
  | .lost => false
def aappend (P : Program) (s : AS) (t tx : TypeId) (a b : AV) : Option (AV × AS) :=
  match P.underlying t with
  | some (.slice e) => match P.info? e with
    | some i => match i.zero with
      | some z => if z.cells.size = i.size ∧ 0 < i.size then (match a, asrc P s i.size tx b with
        | .sl own n cs, some (m, ns) => if cs.length = n * i.size ∧ ns.all one = true ∧ (n + m) * i.bytes ≤ 140737488355328 ∧ n + m ≤ 9223372036854775807 then
            (if m = 0 then some (.sl own n cs, s)
             else if okOwn i.size s.F own = true then some (.sl (.row s.nr i.size) (n + m) (cs ++ ns), s.row own) else none)
          else none
        | _, _ => none) else none
      | none => none
    | none => none
  | _ => none
theorem first_cells {P : Program} {c : Cx} {w : World} {own : Own} {n size : Nat} {cs : List AV} {v : Value} (h : Rp c w (.sl own n cs) v) (hl : cs.length = n * size) :
    ∃ base cap olds, v = .slice base n cap ∧ n ≤ cap ∧ RpL c w cs olds ∧ olds.length = n * size ∧ ∀ w' : World, w'.heap = w.heap → (Builtin.firstCells size n (.slice base n cap)).run P w' = .ok olds.toArray w' := by
  cases h with
  | @sl0 _ A cap h0 =>
    refine ⟨A, cap, [], rfl, Nat.zero_le _, .nil, by simp, fun w' _ => ?_⟩
    cases A with
    | none => simp [Builtin.firstCells]
    | some a => simp [Builtin.firstCells, loadCells, loadCellsFrom]
  | @sl1 _ _ cap g o _ hn hc ho =>
    obtain ⟨vs, hr, hvis⟩ := hc.vals
    have hlv := hr.len
    refine ⟨_, cap, vs, rfl, hn, hr, by omega, fun w' hw => run_firstCells_some w' size n _ n _ vs (by omega) (fun j v hj => ?_)⟩
    rw [add_lit, World.cell?_of_block (w := w) (by rw [hw])]
    exact (hvis j v hj).2.2
theorem aappend_ok {P : Program} {G : Glob} {c : Cx} {w : World} {s s' : AS} {t tx ty : TypeId} {a b r : AV} {va vb : Value} (hs : St G c w s) (h : aappend P s t tx a b = some (r, s')) (ha : Rp c w a va) (hb : Rp c w b vb) :
    ∃ u w' c', (Builtin.append_ #[t, tx] ty #[va, vb]).run P w = .ok u w' ∧ Ext c w c' w' ∧ St G c' w' s' ∧ Rp c' w' r u := by
  unfold aappend at h
  split at h
  · rename_i e ht
    split at h
    · rename_i i hi
      split at h
      · rename_i z hz
        split at h
        · rename_i hzs
          split at h
          · rename_i own n cs m ns hsrc
            split at h
            · rename_i hc
              obtain ⟨news, hnr, hnl, hsi⟩ := asrc_ok hs hsrc hb
              split at h
              · rename_i hm
                cases h
                subst hm
                have hnil : news = [] := List.eq_nil_of_length_eq_zero (by simpa using hnl)
                subst hnil
                obtain ⟨base, cap, olds, rfl, hcap, _, _, _⟩ := first_cells (P := P) (size := i.size) ha hc.1
                refine ⟨.slice base n cap, w, c, ?_, Ext.refl c w, hs, ha⟩
                exact run_app_room ht hi hsi (by omega) (fun a _ => by simp [storeCells]) (fun _ => rfl)
              · rename_i hm
                split at h
                · rename_i hown
                  cases h
                  obtain ⟨base, cap, olds, rfl, hcap, hor, hol, hfc⟩ := first_cells (P := P) (size := i.size) ha hc.1
                  by_cases hroom : n + m ≤ cap
                  · cases ha with
                    | sl0 h0 =>
                      exfalso
                      cases own with
                      | full => have : cap = 0 := h0; omega
                      | row r z => exact h0
                      | lost => simp [okOwn] at hown
                    | @sl1 _ _ _ g o _ hn hcs ho =>
                      cases own with
                      | full => exfalso; have : cap = n := ho; omega
                      | lost => simp [okOwn] at hown
                      | row r0 sz =>
                        simp only [okOwn, Bool.and_eq_true, beq_iff_eq] at hown
                        obtain ⟨rfl, hF⟩ := hown
                        obtain ⟨⟨g', lo, hi'⟩, hrow⟩ := hs.rfree r0 hF
                        obtain ⟨rfl, hlen, hrlt, hrow2⟩ := ho
                        obtain ⟨rfl, rfl, rfl⟩ := hrow2 g' lo hi' hrow
                        obtain ⟨hgb, hbg, hgp, hlh, cur, T, hcur, hcsz⟩ := hs.row r0 g' _ _ hrow
                        have hfit : n * i.size + news.length ≤ cur.size := by rw [hnl, hcsz, ← Nat.add_mul]; exact Nat.mul_le_mul_right _ hroom
                        have hst := run_storeCells_at P g' (n * i.size) T news 0 cur w hcur (by simpa using hfit) (ones_ok hnr hc.2.1)
                        simp only [Nat.add_zero] at hst
                        obtain ⟨x, st⟩ := hs.row_new (own := .row r0 i.size) (g := g') (lo := (n + m) * i.size) (hi := cap * i.size) (T := T) (chg_setRow w g' (cur.toList.take (n * i.size) ++ news ++ cur.toList.drop (n * i.size + news.length)).toArray) hbg hgp (Nat.mul_le_mul_right _ hroom) (setRow_heap w g' cur _ T (0, 0) hcur) (by simp only [List.size_toArray, List.length_append, List.length_take, List.length_drop, Array.length_toList]; omega)
                          (.inr ⟨r0, i.size, n * i.size, rfl, hrow, Nat.mul_le_mul_right _ (by omega), fun j v hj hv => by
                            rw [List.getElem?_toArray, List.append_assoc, List.getElem?_append_left (by rw [List.length_take, Array.length_toList]; omega), List.getElem?_take, if_pos hj]
                            simpa [World.cell?, hcur] using hv⟩)
                        refine ⟨_, _, _, run_app_room ht hi hsi hroom (fun a ha => by cases ha; rw [add_lit, Nat.zero_add]; exact hst) (fun h => by cases h), x, st, ?_⟩
                        refine .sl1 hroom (CellsAt.of_vals ((hor.append hnr).mono x) (fun j v hj => ?_)) ⟨rfl, by rw [List.length_append, hc.1, ← hnr.len, hnl, Nat.add_mul], by simp [own1_len, hs.rlen], fun g2 lo2 hi2 h2 => ?_⟩
                        · rw [Nat.zero_add]
                          by_cases hj1 : j < olds.length
                          · rw [List.getElem?_append_left hj1] at hj
                            obtain ⟨av, hav⟩ : ∃ av, cs[j]? = some av := ⟨_, List.getElem?_eq_getElem (by omega)⟩
                            have hvv : Vis c w g' j v := by
                              obtain ⟨vs, hr, hvis⟩ := hcs.vals
                              have hcell := hvis
                              have h1 := hfc w rfl
                              have h2 := run_firstCells_some (P := P) w i.size n ⟨g', 0, none⟩ n cap vs (by rw [hr.len]; exact hc.1) (fun j v hj => by rw [add_lit]; exact (hvis j v hj).2.2)
                              rw [h1] at h2
                              injection h2 with h2 _
                              have h3 : olds = vs := by simpa using congrArg Array.toList h2
                              subst h3
                              have := hvis j v hj
                              rwa [Nat.zero_add] at this
                            exact x.vis g' j v hvv
                          · rw [List.getElem?_append_right (by omega)] at hj
                            have hjl := (List.getElem?_eq_some_iff.1 hj).1
                            refine ⟨(Array.getElem?_eq_some_iff.1 (setRow_heap w g' cur _ T (0, 0) hcur)).1, fun hshy => ?_, ?_⟩
                            · rcases hshy with hshy | ⟨r2, lo2, hi2, hr2, h1, h2⟩ | hshy
                              · exact hgp hshy
                              rotate_left
                              · exact hgb _ hshy
                              · by_cases hrr : r2 < c.rows.length
                                · simp only at hr2
                                  rw [List.getElem?_append_left (by rw [own1_len]; exact hrr)] at hr2
                                  obtain ⟨hr3, hr4⟩ := own1_get hr2
                                  exact hr4 r0 i.size rfl (hs.rdist r2 r0 g' _ _ _ _ hr3 hrow)
                                · have hl2 := (List.getElem?_eq_some_iff.1 hr2).1
                                  simp [own1_len] at hl2
                                  have hr3 : r2 = (own1 (.row r0 i.size) c.rows).length := by rw [own1_len]; omega
                                  simp only at hr2
                                  rw [hr3, List.getElem?_concat_length] at hr2
                                  injection hr2 with hr2
                                  injection hr2 with hr2
                                  injection hr2 with _ hr2
                                  injection hr2 with hr2 _
                                  have : (n + m) * i.size = n * i.size + news.length := by rw [hnl, Nat.add_mul]
                                  omega
                            · have hv2 : (List.take (n * i.size) cur.toList ++ news ++ List.drop (n * i.size + news.length) cur.toList)[j]? = some v := by
                                rw [List.append_assoc, List.getElem?_append_right (by rw [List.length_take, Array.length_toList]; omega), show (List.take (n * i.size) cur.toList).length = olds.length from by rw [List.length_take, Array.length_toList]; omega, List.getElem?_append_left hjl]
                                exact hj
                              exact cell_of_heap (setRow_heap w g' cur _ T (0, 0) hcur) hv2
                        · have : s.nr = (own1 (.row r0 i.size) c.rows).length := by rw [own1_len, hs.rlen]
                          simp only at h2
                          rw [this, List.getElem?_concat_length] at h2
                          injection h2 with h2
                          injection h2 with h2
                          injection h2 with e1 h2
                          injection h2 with e2 e3
                          exact ⟨e1.symm, e2.symm, e3.symm⟩
                  · obtain ⟨cap', hcap', hrun⟩ := run_app_grow (ty := ty) ht hi hz hsi (hfc { w with drawn := w.drawn + 1 } rfl) (by omega) hc.2.2.2 hc.2.2.1
                    have hzc : (Builtin.zeroCells z.cells (cap' - (n + m))).size = (cap' - (n + m)) * i.size := by rw [size_zeroCells, hzs.1]
                    have hk : Chg w { w with drawn := w.drawn + 1, heap := w.heap.push (.cells ((olds ++ news).toArray ++ Builtin.zeroCells z.cells (cap' - (n + m))) e) } (fun x => x = w.heap.size) :=
                      ⟨rfl, rfl, rfl, by simp, fun k hk _ => by simp [Array.getElem?_push]; intro h; omega⟩
                    have hnew : ({ w with drawn := w.drawn + 1, heap := w.heap.push (.cells ((olds ++ news).toArray ++ Builtin.zeroCells z.cells (cap' - (n + m))) e) } : World).heap[w.heap.size]? = some (.cells ((olds ++ news).toArray ++ Builtin.zeroCells z.cells (cap' - (n + m))) e (0, 0)) := by simp
                    have hpn : some w.heap.size ∉ c.phi := fun hm => by have := hs.phi_lt hm; omega
                    obtain ⟨x, st⟩ := hs.row_new (own := own) (g := w.heap.size) (lo := (n + m) * i.size) (hi := cap' * i.size) (T := e) hk hs.bsz hpn (Nat.mul_le_mul_right _ hcap') hnew
                      (by simp only [Array.size_append, List.size_toArray, List.length_append, hol, hnl, hzc, ← Nat.add_mul]; congr 1; omega) (.inl rfl)
                    refine ⟨_, _, _, hrun, x, st, ?_⟩
                    refine .sl1 hcap' (CellsAt.of_vals ((hor.append hnr).mono x) (fun j v hj => ?_)) ⟨rfl, by rw [List.length_append, hc.1, ← hnr.len, hnl, Nat.add_mul], by simp [own1_len, hs.rlen], fun g2 lo2 hi2 h2 => ?_⟩
                    · rw [Nat.zero_add]
                      have hjl := (List.getElem?_eq_some_iff.1 hj).1
                      refine ⟨by simp, fun hshy => ?_, ?_⟩
                      · rcases hshy with hshy | ⟨r2, lo2, hi2, hr2, h1, h2⟩ | hshy
                        · exact hpn hshy
                        rotate_left
                        · have := hs.blow _ _ hshy; omega
                        · by_cases hrr : r2 < c.rows.length
                          · simp only at hr2
                            rw [List.getElem?_append_left (by rw [own1_len]; exact hrr)] at hr2
                            have := hs.row_lt (own1_get hr2).1
                            omega
                          · have hl2 := (List.getElem?_eq_some_iff.1 hr2).1
                            simp [own1_len] at hl2
                            have hr3 : r2 = (own1 own c.rows).length := by rw [own1_len]; omega
                            simp only at hr2
                            rw [hr3, List.getElem?_concat_length] at hr2
                            injection hr2 with hr2
                            injection hr2 with hr2
                            injection hr2 with _ hr2
                            injection hr2 with hr2 _
                            have : (n + m) * i.size = olds.length + news.length := by rw [hol, hnl, Nat.add_mul]
                            rw [List.length_append] at hjl
                            omega
                      · have hv2 : ((olds ++ news) ++ (Builtin.zeroCells z.cells (cap' - (n + m))).toList)[j]? = some v := by
                          rw [List.getElem?_append_left hjl]; exact hj
                        refine cell_of_heap (vs := (olds ++ news) ++ (Builtin.zeroCells z.cells (cap' - (n + m))).toList) (T := e) (fr := (0, 0)) ?_ hv2
                        rw [hnew]
                        congr 2
                        apply Array.ext'
                        simp
                    · have : s.nr = (own1 own c.rows).length := by rw [own1_len, hs.rlen]
                      simp only at h2
                      rw [this, List.getElem?_concat_length] at h2
                      injection h2 with h2
                      injection h2 with h2
                      injection h2 with e1 h2
                      injection h2 with e2 e3
                      exact ⟨e1.symm, e2.symm, e3.symm⟩
                · cases h
            · cases h
          · cases h
        · cases h
      · cases h
    · cases h
  · cases h
end AI
/- Maps, new slices, lengths. -/
namespace AI
open Go Go.RowKit

def plainKey : TypeDesc → Bool
  | .int _ | .string | .bool => true
  | _ => false
/-- are two keys the same? -/
def sameK : TypeDesc → Value → Value → Option Bool
  | .int _, .int k a, .int k' b => if k = k' then some (a == b) else none
  | .string, .string a, .string b => some (a.data.toList == b.data.toList)
  | .bool, .bool a, .bool b => some (a == b)
  | _, _, _ => none
theorem ba_beq (a b : ByteArray) : (a == b) = (a.data.toList == b.data.toList) := by
  obtain ⟨⟨a⟩⟩ := a
  obtain ⟨⟨b⟩⟩ := b
  show ((⟨a⟩ : Array UInt8) == ⟨b⟩) = (a == b)
  simp
theorem sameK_eq (d : TypeDesc) (a b : Value) : Instr.sameNow d a b = sameK d a b := by
  unfold sameK
  split <;> simp_all [Instr.sameNow, ba_beq]
theorem sameK_bits {d : TypeDesc} {a b : Value} (h : sameK d a b = some true) : Instr.sameBits 10000 b a = true := by
  unfold sameK at h
  split at h
  · split at h
    · rename_i e; subst e
      simp at h; subst h; simp [Instr.sameBits]
    · cases h
  · rename_i x y
    simp only [Option.some.injEq, beq_iff_eq] at h
    simp [Instr.sameBits, ba_beq, h]
  · simp at h; subst h; simp [Instr.sameBits]
  · cases h
def afind (d : TypeDesc) (k : Value) : List (Value × AV × Nat) → Nat → Option (Option (Nat × AV))
  | [], _ => some none
  | e :: es, i => match sameK d k e.1 with
    | some true => some (some (i, e.2.1))
    | some false => afind d k es (i + 1)
    | none => none
theorem afind_ok {c : Cx} {w : World} {d : TypeDesc} {k : Value} {es : List (Value × AV × Nat)} {fs : List MapEntry} (h : EntL c w es fs) {i : Nat} {r : Option (Nat × AV)} (hf : afind d k es i = some r) :
    (r = none ∧ Instr.findNow d k fs i = some none) ∨ ∃ j a v e f, r = some (i + j, a) ∧ Instr.findNow d k fs i = some (some (i + j, v)) ∧ Rp c w a v ∧ es[j]? = some e ∧ fs[j]? = some f ∧ e.2.1 = a ∧ f.val = v ∧ f.key = e.1 ∧ f.born = e.2.2 ∧ sameK d k e.1 = some true := by
  induction h generalizing i r with
  | nil => simp [afind] at hf; subst hf; exact .inl ⟨rfl, rfl⟩
  | @cons k' a v b es fs h1 _ ih =>
    simp only [afind] at hf
    split at hf
    · rename_i hs
      cases hf
      refine .inr ⟨0, a, v, (k', a, b), ⟨k', v, b⟩, rfl, ?_, h1, rfl, rfl, rfl, rfl, rfl, rfl, hs⟩
      simp only [Instr.findNow, sameK_eq, hs, Nat.add_zero]
    · rename_i hs
      rcases ih hf with ⟨h2, h3⟩ | ⟨j, a', v', e, f, h2, h3, h4, h5, h6, h7⟩
      · refine .inl ⟨h2, ?_⟩
        simp only [Instr.findNow, sameK_eq, hs]; exact h3
      · refine .inr ⟨j + 1, a', v', e, f, by rw [h2]; congr 2; omega, ?_, h4, by simpa using h5, by simpa using h6, h7⟩
        simp only [Instr.findNow, sameK_eq, hs]; rw [h3]; congr 3; omega
    · cases hf
theorem EntL.set {c : Cx} {w : World} {es : List (Value × AV × Nat)} {fs : List MapEntry} (h : EntL c w es fs) {k : Value} {a : AV} {v : Value} {b : Nat} (hr : Rp c w a v) (i : Nat) : EntL c w (es.set i (k, a, b)) (fs.set i ⟨k, v, b⟩) := by
  induction h generalizing i with
  | nil => exact .nil
  | cons h1 t ih =>
    cases i with
    | zero => exact .cons hr t
    | succ i => exact .cons h1 (ih i)
theorem EntL.snoc {c : Cx} {w : World} {es : List (Value × AV × Nat)} {fs : List MapEntry} (h : EntL c w es fs) {k : Value} {a : AV} {v : Value} {b : Nat} (hr : Rp c w a v) : EntL c w (es ++ [(k, a, b)]) (fs ++ [⟨k, v, b⟩]) := by
  induction h with
  | nil => exact .cons hr .nil
  | cons h1 _ ih => exact .cons h1 ih
theorem EntL.len {c : Cx} {w : World} {es : List (Value × AV × Nat)} {fs : List MapEntry} (h : EntL c w es fs) : fs.length = es.length := by
  induction h with
  | nil => rfl
  | cons _ _ ih => simp [ih]
theorem box_map {G : Glob} {c : Cx} {w : World} {s : AS} (hs : St G c w s) {id g : Nat} {es : List (Value × AV × Nat)} {clock : Nat} (hid : c.phi[id]? = some (some g)) (hb : s.get id = some (.map es clock)) : ∃ fs, w.heap[g]? = some (.map fs.toArray clock) ∧ EntL c w es fs := by
  obtain ⟨o, ho, hbo⟩ := hs.box id g _ hid hb
  cases hbo with
  | map h1 => exact ⟨_, ho, h1⟩
theorem run_getMap {P : Program} {w : World} {g : Nat} {es : Array MapEntry} {cl : Nat} (h : w.heap[g]? = some (.map es cl)) : (getObj g).run P w = .ok (.map es cl) w := by simp [getObj, Sem.run, h]
theorem run_setMap {P : Program} {w : World} {g : Nat} {es : Array MapEntry} {cl : Nat} (o : Obj) (h : w.heap[g]? = some (.map es cl)) : (setObj g o).run P w = .ok () { w with heap := w.heap.setIfInBounds g o } := by simp [setObj, Sem.run, h]
theorem chg_set (w : World) (g : Nat) (o : Obj) : Chg w { w with heap := w.heap.setIfInBounds g o } (fun x => x = g) :=
  ⟨rfl, rfl, rfl, by simp, fun k _ hne => by simp only; rw [Array.getElem?_setIfInBounds_ne (fun e => hne e.symm)]⟩
theorem set_get (w : World) {g : Nat} {o o' : Obj} (h : w.heap[g]? = some o') : ({ w with heap := w.heap.setIfInBounds g o } : World).heap[g]? = some o := by
  have := (Array.getElem?_eq_some_iff.1 h).1
  simp [this]
theorem run_checkKey {P : Program} {kt : TypeId} {kd : TypeDesc} {v : Value} (b : Bool) (h : P.underlying kt = some kd) (hp : plainKey kd = true) (w : World) : (Instr.checkKey b 10000 kt v).run P w = .ok () w := by
  unfold Instr.checkKey
  rw [Sem.run_bind, run_underlying h]
  cases kd <;> first | (simp [plainKey] at hp; done) | rfl
theorem run_findKey {P : Program} {kt : TypeId} {kd : TypeDesc} {v : Value} {es : List MapEntry} {r : Option (Nat × Value)} (h : P.underlying kt = some kd) (hf : Instr.findNow kd v es 0 = some r) (w : World) : (Instr.findKey kt v es).run P w = .ok r w := by
  unfold Instr.findKey
  rw [Sem.run_bind, run_underlying h]
  simp [hf]
def azero (P : Program) (t : TypeId) : Option AV :=
  match P.info? t with
  | some i => match i.zero with
    | some z => ofVal z
    | none => none
  | none => none
theorem azero_ok {P : Program} {t : TypeId} {a : AV} (h : azero P t = some a) (c : Cx) (w w0 : World) : ∃ z, (zeroValue t).run P w0 = .ok z w0 ∧ Rp c w a z := by
  unfold azero at h
  split at h
  · rename_i i hi
    split at h
    · rename_i z hz
      exact ⟨z, by simp [zeroValue, typeInfo, hi, hz], ofVal_ok h c w⟩
    · cases h
  · cases h
def alookup (P : Program) (s : AS) (t : TypeId) (x k : AV) (ok : Bool) : Option AV :=
  match P.underlying t with
  | some (.map kt et) => match P.underlying kt, toSc k with
    | some kd, some key => if plainKey kd = true then
        (match (match x with
          | .sc (.map none) => some []
          | .mp id => match s.get id with
            | some (.map es _) => some es
            | _ => none
          | _ => none) with
        | some es => match afind kd key es 0 with
          | some (some (_, v)) => some (if ok then .tup [v, .sc (.bool true)] else v)
          | some none => (azero P et).map fun z => if ok then .tup [z, .sc (.bool false)] else z
          | none => none
        | none => none) else none
    | _, _ => none
  | _ => none
/-- the map that x is -/
def MapIs (w : World) (vx : Value) (fs : List MapEntry) : Prop := (vx = .map none ∧ fs = []) ∨ ∃ g cl, vx = .map (some g) ∧ w.heap[g]? = some (.map fs.toArray cl)
theorem run_lookup_some {P : Program} {w : World} {t kt et : TypeId} {kd : TypeDesc} {vx vk v : Value} {fs : List MapEntry} {j : Nat} (ok : Bool) (hu : P.underlying t = some (.map kt et)) (hkd : P.underlying kt = some kd) (hp : plainKey kd = true) (hm : MapIs w vx fs) (hf : Instr.findNow kd vk fs 0 = some (some (j, v))) :
    (Instr.lookup t vx vk ok).run P w = .ok (if ok then .tuple #[v, .bool true] else v) w := by
  rcases hm with ⟨rfl, rfl⟩ | ⟨g, cl, rfl, hg⟩
  · simp [Instr.findNow] at hf
  · simp only [Instr.lookup, Sem.run_bind, run_underlying hu, Result.andThen_ok, run_getMap hg, Sem.run_pure, run_checkKey _ hkd hp, run_findKey hkd hf]
theorem run_lookup_none {P : Program} {w : World} {t kt et : TypeId} {kd : TypeDesc} {vx vk z : Value} {fs : List MapEntry} (ok : Bool) (hu : P.underlying t = some (.map kt et)) (hkd : P.underlying kt = some kd) (hp : plainKey kd = true) (hm : MapIs w vx fs) (hf : Instr.findNow kd vk fs 0 = some none) (hz : (zeroValue et).run P w = .ok z w) :
    (Instr.lookup t vx vk ok).run P w = .ok (if ok then .tuple #[z, .bool false] else z) w := by
  rcases hm with ⟨rfl, rfl⟩ | ⟨g, cl, rfl, hg⟩
  · simp only [Instr.lookup, Sem.run_bind, run_underlying hu, Result.andThen_ok, Sem.run_pure, run_checkKey _ hkd hp]
    rw [run_findKey hkd hf]
    simp only [Sem.run_bind, hz, Result.andThen_ok, Sem.run_pure]
  · simp only [Instr.lookup, Sem.run_bind, run_underlying hu, Result.andThen_ok, run_getMap hg, Sem.run_pure, run_checkKey _ hkd hp, run_findKey hkd hf, hz]
theorem alookup_ok {P : Program} {G : Glob} {c : Cx} {w : World} {s : AS} {t : TypeId} {x k r : AV} {ok : Bool} {vx vk : Value} (hs : St G c w s) (h : alookup P s t x k ok = some r) (hx : Rp c w x vx) (hk : Rp c w k vk) :
    ∃ u, (Instr.lookup t vx vk ok).run P w = .ok u w ∧ Rp c w r u := by
  unfold alookup at h
  split at h
  · rename_i kt et hu
    split at h
    · rename_i kd key hkd hkey
      have := toSc_ok hkey hk
      subst this
      split at h
      · rename_i hp
        split at h
        · rename_i es hes
          obtain ⟨fs, hfs, hm⟩ : ∃ fs, EntL c w es fs ∧ MapIs w vx fs := by
            split at hes
            · cases hes; cases hx
              exact ⟨[], .nil, .inl ⟨rfl, rfl⟩⟩
            · split at hes
              · rename_i es' cl hb
                cases hes
                cases hx with
                | mp hid =>
                  obtain ⟨fs, hw, he⟩ := box_map hs hid hb
                  exact ⟨fs, he, .inr ⟨_, _, rfl, hw⟩⟩
              · cases hes
            · cases hes
          split at h
          · rename_i j v hf
            cases h
            rcases afind_ok hfs hf with ⟨h1, _⟩ | ⟨j', a, v', e, f, h1, h2, h3, _⟩
            · cases h1
            · injection h1 with h1
              injection h1 with _ h1
              subst h1
              refine ⟨_, run_lookup_some ok hu hkd hp hm h2, ?_⟩
              cases ok
              · exact h3
              · exact .tup (vs := [v', .bool true]) (.cons h3 (.cons (.sc rfl) .nil))
          · rename_i hf
            cases hz : azero P et with
            | none => rw [hz] at h; cases h
            | some z =>
              rw [hz] at h; cases h
              rcases afind_ok hfs hf with ⟨_, h2⟩ | ⟨j', a, v', e, f, h1, _⟩
              · obtain ⟨zv, hzr, hzp⟩ := azero_ok hz c w w
                refine ⟨_, run_lookup_none ok hu hkd hp hm h2 hzr, ?_⟩
                cases ok
                · exact hzp
                · exact .tup (vs := [zv, .bool false]) (.cons hzp (.cons (.sc rfl) .nil))
              · cases h1
          · cases h
        · cases h
      · cases h
    · cases h
  · cases h
/-- a map's entry for a key is set -/
def amapSet (P : Program) (s : AS) (t : TypeId) (x k v : AV) : Option AS :=
  match P.underlying t with
  | some (.map kt _) => match P.underlying kt, toSc k, x with
    | some kd, some key, .mp id => if plainKey kd = true then
        (match s.get id with
        | some (.map es cl) => match afind kd key es 0 with
          | some (some (j, _)) => match es[j]? with
            | some e => some (s.put id (.map (es.set j (key, v, e.2.2)) cl))
            | none => none
          | some none => some (s.put id (.map (es ++ [(key, v, cl)]) (cl + 1)))
          | none => none
        | _ => none) else none
    | _, _, _ => none
  | _ => none
theorem modify_set {fs : List MapEntry} {j : Nat} {f g : MapEntry} {F : MapEntry → MapEntry} (h : fs[j]? = some f) (hF : F f = g) : fs.toArray.modify j F = (fs.set j g).toArray := by
  apply Array.ext'
  rw [List.modify_toArray]
  apply List.ext_getElem?
  intro i
  rw [List.getElem?_modify, List.getElem?_set]
  by_cases e : j = i
  · subst e
    obtain ⟨hl, he⟩ := List.getElem?_eq_some_iff.1 h
    simp [hl, he, hF]
  · simp [e]
theorem amapSet_ok {P : Program} {G : Glob} {c : Cx} {w : World} {s s' : AS} {t : TypeId} {x k v : AV} {vx vk vv : Value} (hs : St G c w s) (h : amapSet P s t x k v = some s') (hx : Rp c w x vx) (hk : Rp c w k vk) (hv : Rp c w v vv) :
    ∃ w', (Instr.mapUpdate t vx vk vv).run P w = .ok () w' ∧ Ext c w c w' ∧ St G c w' s' := by
  unfold amapSet at h
  split at h
  · rename_i kt et hu
    split at h
    · rename_i kd key id hkd hkey
      have := toSc_ok hkey hk
      subst this
      split at h
      · rename_i hp
        split at h
        · rename_i es cl hb
          cases hx with
          | @mp _ g hid =>
            obtain ⟨fs, hw, he⟩ := box_map hs hid hb
            split at h
            · rename_i j a hf
              split at h
              · rename_i e hej
                cases h
                rcases afind_ok he hf with ⟨h1, _⟩ | ⟨j', a', v', e', f, h1, h2, h3, h4, h5, h6, h7, h8, h9, h10⟩
                · cases h1
                · injection h1 with h1
                  injection h1 with h1 _
                  rw [Nat.zero_add] at h1
                  subst h1
                  rw [hej] at h4
                  cases h4
                  rw [Nat.zero_add] at h2
                  have hmod : fs.toArray.modify j (fun e => { e with key := vk, val := vv }) = (fs.set j ⟨vk, vv, e.2.2⟩).toArray := modify_set h5 (by rw [← h9])
                  obtain ⟨x1, st⟩ := hs.put (b := .map (es.set j (vk, v, e.2.2)) cl) (o := .map (fs.set j ⟨vk, vv, e.2.2⟩).toArray cl) hid (chg_set w g _) (set_get w hw) (.map (he.set hv j))
                  refine ⟨_, ?_, x1, st⟩
                  have hbits := sameK_bits h10
                  have hfk := run_findKey (P := P) hkd h2 w
                  simp only [Instr.mapUpdate, Sem.run_bind, run_underlying hu, Result.andThen_ok, run_getMap hw, run_checkKey _ hkd hp, hfk, List.getElem?_toArray, h5, Option.map_some, Option.getD_some, h8, Instr.keyThatStays, hbits, if_true, Sem.run_pure, hmod]
                  exact run_setMap _ hw
              · cases h
            · rename_i hf
              cases h
              rcases afind_ok he hf with ⟨_, h2⟩ | ⟨j', a', v', e', f, h1, _⟩
              · obtain ⟨x1, st⟩ := hs.put (b := .map (es ++ [(vk, v, cl)]) (cl + 1)) (o := .map (fs ++ [(⟨vk, vv, cl⟩ : MapEntry)]).toArray (cl + 1)) hid (chg_set w g _) (set_get w hw) (.map (he.snoc hv))
                refine ⟨_, ?_, x1, st⟩
                have hfk := run_findKey (P := P) hkd h2 w
                have hpush : fs.toArray.push (⟨vk, vv, cl⟩ : MapEntry) = (fs ++ [(⟨vk, vv, cl⟩ : MapEntry)]).toArray := by simp
                simp only [Instr.mapUpdate, Sem.run_bind, run_underlying hu, Result.andThen_ok, run_getMap hw, run_checkKey _ hkd hp, hfk, hpush]
                exact run_setMap _ hw
              · cases h1
            · cases h
        · cases h
      · cases h
    · cases h
  · cases h
theorem amakeMap_ok {P : Program} {G : Glob} {c : Cx} {w : World} {s : AS} {t : TypeId} (hs : St G c w s) :
    ∃ v' w' c', (Instr.makeMap t none).run P w = .ok v' w' ∧ Ext c w c' w' ∧ St G c' w' (s.new (.map [] 0)) ∧ Rp c' w' (.mp s.nx) v' := by
  obtain ⟨e, st⟩ := hs.new (b := .map [] 0) (o := .map #[] 0) (.map (fs := []) .nil)
  refine ⟨.map (some w.heap.size), _, _, ?_, e, st, .mp ?_⟩
  · simp [Instr.makeMap]
  · simp [hs.len]
/-- the length of a value -/
def alen (P : Program) (s : AS) (t : TypeId) (a : AV) : Option AV :=
  match P.underlying t, a with
  | some .string, .sc (.string x) => some (.sc (.int .i64 x.data.toList.length))
  | some (.slice _), .sl _ n _ => some (.sc (.int .i64 n))
  | some (.slice _), .msl _ _ n => some (.sc (.int .i64 n))
  | some (.map _ _), .sc (.map none) => some (.sc (.int .i64 0))
  | some (.map _ _), .mp id => match s.get id with
    | some (.map es _) => some (.sc (.int .i64 es.length))
    | _ => none
  | _, _ => none
theorem alen_ok {P : Program} {G : Glob} {c : Cx} {w : World} {s : AS} {t ty : TypeId} {a r : AV} {v : Value} (hs : St G c w s) (h : alen P s t a = some r) (ha : Rp c w a v) : ∃ u, (Builtin.len_ #[t] ty #[v]).run P w = .ok u w ∧ Rp c w r u := by
  unfold alen at h
  split at h
  · rename_i x hu; cases h; cases ha; exact ⟨_, by simp [Builtin.len_, run_underlying hu, goInt], .sc rfl⟩
  · rename_i hu; cases h; cases ha <;> exact ⟨_, by simp [Builtin.len_, run_underlying hu, goInt], .sc rfl⟩
  · rename_i hu; cases h; cases ha; exact ⟨_, by simp [Builtin.len_, run_underlying hu, goInt], .sc rfl⟩
  · rename_i hu; cases h; cases ha; exact ⟨_, by simp [Builtin.len_, run_underlying hu, goInt], .sc rfl⟩
  · rename_i hu
    split at h
    · rename_i es cl hb
      cases h
      cases ha with
      | mp hid =>
        obtain ⟨fs, hw, he⟩ := box_map hs hid hb
        exact ⟨_, by simp [Builtin.len_, run_underlying hu, run_getMap hw, he.len, goInt], .sc rfl⟩
    · cases h
  · cases h
/-- a new slice of zeros, which can be written -/
def amakeSlice (P : Program) (s : AS) (t : TypeId) (l c : AV) : Option (AV × AS) :=
  match P.underlying t with
  | some (.slice elem) => match P.info? elem, anat l, anat c with
    | some e, some n, some m => match e.zero with
      | some z => match ofCells z.cells.toList with
        | some zs => if n = m ∧ n ≤ 16777216 ∧ n * e.bytes ≤ 281474976710656 ∧ zs.isEmpty = false then some (.msl s.nx 0 n, s.new (.cells ((List.range (n * e.size)).map fun i => zs.getD (i % zs.length) (.sc undef)))) else none
        | none => none
      | none => none
    | _, _, _ => none
  | _ => none
end AI
/- New slices; entries of maps that are changed in place. -/
namespace AI
open Go Go.RowKit

theorem amakeSlice_ok {P : Program} {G : Glob} {c : Cx} {w : World} {s s' : AS} {t : TypeId} {l k r : AV} {vl vk : Value} (hs : St G c w s) (h : amakeSlice P s t l k = some (r, s')) (hl : Rp c w l vl) (hk : Rp c w k vk) :
    ∃ u w' c', (Instr.makeSlice t vl vk).run P w = .ok u w' ∧ Ext c w c' w' ∧ St G c' w' s' ∧ Rp c' w' r u := by
  unfold amakeSlice at h
  split at h
  · rename_i elem hu
    split at h
    · rename_i e n m he hn hm
      split at h
      · rename_i z hz
        split at h
        · rename_i zs hzs
          split at h
          · rename_i hc
            cases h
            obtain ⟨rfl, h24, h48, hne⟩ := hc
            obtain ⟨k1, i1, rfl, h1, e1⟩ := anat_ok hn hl
            obtain ⟨k2, i2, rfl, h2, e2⟩ := anat_ok hm hk
            have w1 : IntKind.i64.wrap i1 = i1 := IntWalk.i64_in _ (by omega)
            have w2 : IntKind.i64.wrap i2 = i2 := IntWalk.i64_in _ (by omega)
            have hzr := ofCells_ok hzs c w
            have hin := zeros_ok hzr (n * e.size) (fun _ hn => by rw [hn] at hne; cases hne)
            simp only [Array.toArray_toList] at hin
            have harr : (Array.range (n * e.size)).map (fun i => z.cells[i % z.cells.size]!) = ((List.range (n * e.size)).map fun i => z.cells[i % z.cells.size]!).toArray := by
              apply Array.ext'
              simp
            obtain ⟨x, st⟩ := hs.new (b := .cells ((List.range (n * e.size)).map fun i => zs.getD (i % zs.length) (.sc undef))) (o := .cells ((List.range (n * e.size)).map fun i => z.cells[i % z.cells.size]!).toArray elem (0, 0)) (.cells hin)
            refine ⟨.slice (some ⟨w.heap.size, 0, none⟩) n n, _, _, ?_, x, st, .msl (Nat.le_refl _) (by simp [hs.len])⟩
            have hb : ¬ 281474976710656 < (e.bytes : Int) * i2 := by
              have e3 : (e.bytes : Int) * i2 = ((n * e.bytes : Nat) : Int) := by
                rw [show i2 = (n : Int) from by omega, Int.natCast_mul, Int.mul_comm]
              rw [e3]
              generalize n * e.bytes = q at h48
              omega
            have hn2 : ¬ i2 < 0 := by omega
            have hn1 : ¬ i1 < 0 := by omega
            have hle : ¬ i2 < i1 := by omega
            simp only [Instr.makeSlice, Sem.run_bind, run_underlying hu, Result.andThen_ok, asInt, asIntOf, Sem.run_pure, typeInfo, run_program, he, w1, w2, hn1, hn2, gt_iff_lt, show (2 : Int) ^ 48 = 281474976710656 from rfl, hb, decide_false, Bool.or_false, hle, Bool.false_eq_true, if_false, run_askRoom, e2, run_sizeOf' he, newRow, e1]
            split
            · rename_i h0
              have hz0 : Array.range 0 = #[] := rfl
              simp [h0, hz0]
            · simp only [Sem.run_bind, zeroValue, typeInfo, run_program, Result.andThen_ok, he, hz, Sem.run_pure, run_newObj, harr]
          · cases h
        · cases h
      · cases h
    · cases h
  · cases h

/-- the entry for a key, made if it lacks; what it holds, and its number -/
def amapEntry (P : Program) (s : AS) (t : TypeId) (x k : AV) : Option (AV × AS) :=
  match P.underlying t with
  | some (.map kt et) => match P.underlying kt, toSc k, x with
    | some kd, some key, .mp id => if plainKey kd = true then
        (match s.get id with
        | some (.map es cl) => match afind kd key es 0 with
          | some (some (j, v)) => match es[j]? with
            | some e => some (.tup [v, .sc (.int .i64 e.2.2)], (s.put id (.map (es.set j (key, v, e.2.2)) cl)))
            | none => none
          | some none => match azero P et with
            | some z => some (.tup [z, .sc (.int .i64 cl)], (s.put id (.map (es ++ [(key, z, cl)]) (cl + 1))))
            | none => none
          | none => none
        | _ => none) else none
    | _, _, _ => none
  | _ => none
theorem amapEntry_ok {P : Program} {G : Glob} {c : Cx} {w : World} {s s' : AS} {t : TypeId} {x k r : AV} {vx vk : Value} (hs : St G c w s) (h : amapEntry P s t x k = some (r, s')) (hx : Rp c w x vx) (hk : Rp c w k vk) :
    ∃ u w', (Instr.mapEntry t vx vk).run P w = .ok u w' ∧ Ext c w c w' ∧ St G c w' s' ∧ Rp c w' r u := by
  unfold amapEntry at h
  split at h
  · rename_i kt et hu
    split at h
    · rename_i kd key id hkd hkey
      have := toSc_ok hkey hk
      subst this
      split at h
      · rename_i hp
        split at h
        · rename_i es cl hb
          cases hx with
          | @mp _ g hid =>
            obtain ⟨fs, hw, he⟩ := box_map hs hid hb
            split at h
            · rename_i j v hf
              split at h
              · rename_i e hej
                cases h
                rcases afind_ok he hf with ⟨h1, _⟩ | ⟨j', a', v', e', f, h1, h2, h3, h4, h5, h6, h7, h8, h9, h10⟩
                · cases h1
                · injection h1 with h1
                  injection h1 with h1 h1'
                  rw [Nat.zero_add] at h1
                  subst h1 h1'
                  rw [hej] at h4
                  cases h4
                  rw [Nat.zero_add] at h2
                  have hmod : fs.toArray.modify j (fun e => { e with key := vk }) = (fs.set j ⟨vk, v', e.2.2⟩).toArray := modify_set h5 (by rw [← h9, ← h7])
                  obtain ⟨x1, st⟩ := hs.put (b := .map (es.set j (vk, v, e.2.2)) cl) (o := .map (fs.set j ⟨vk, v', e.2.2⟩).toArray cl) hid (chg_set w g _) (set_get w hw) (.map (he.set h3 j))
                  refine ⟨.tuple #[v', .int .i64 e.2.2], _, ?_, x1, st, .tup (vs := [v', .int .i64 e.2.2]) (.cons (h3.mono x1) (.cons (.sc rfl) .nil))⟩
                  have hbits := sameK_bits h10
                  have hfk := run_findKey (P := P) hkd h2 w
                  simp only [Instr.mapEntry, Sem.run_bind, run_underlying hu, Result.andThen_ok, run_getMap hw, run_checkKey _ hkd hp, hfk, List.getElem?_toArray, h5, Option.map_some, Option.getD_some, h8, h9, Instr.keyThatStays, hbits, if_true, Sem.run_pure, hmod, run_setMap _ hw, goInt]
              · cases h
            · rename_i hf
              split at h
              · rename_i z hz
                cases h
                rcases afind_ok he hf with ⟨_, h2⟩ | ⟨j', a', v', e', f, h1, _⟩
                · obtain ⟨zv, hzr, hzp⟩ := azero_ok hz c w w
                  obtain ⟨x1, st⟩ := hs.put (b := .map (es ++ [(vk, z, cl)]) (cl + 1)) (o := .map (fs ++ [(⟨vk, zv, cl⟩ : MapEntry)]).toArray (cl + 1)) hid (chg_set w g _) (set_get w hw) (.map (he.snoc hzp))
                  refine ⟨.tuple #[zv, .int .i64 cl], _, ?_, x1, st, .tup (vs := [zv, .int .i64 cl]) (.cons (hzp.mono x1) (.cons (.sc rfl) .nil))⟩
                  have hfk := run_findKey (P := P) hkd h2 w
                  have hpush : fs.toArray.push (⟨vk, zv, cl⟩ : MapEntry) = (fs ++ [(⟨vk, zv, cl⟩ : MapEntry)]).toArray := by simp
                  simp only [Instr.mapEntry, Sem.run_bind, run_underlying hu, Result.andThen_ok, run_getMap hw, run_checkKey _ hkd hp, hfk, hzr, hpush, run_setMap _ hw, Sem.run_pure, goInt]
                · cases h1
              · cases h
            · cases h
        · cases h
      · cases h
    · cases h
  · cases h
/-- where the entry with a number is -/
def aborn (b : Int) : List (Value × AV × Nat) → Nat → Option Nat
  | [], _ => none
  | e :: es, i => if (e.2.2 : Int) == b then some i else aborn b es (i + 1)
theorem aborn_ok {c : Cx} {w : World} {b : Int} {es : List (Value × AV × Nat)} {fs : List MapEntry} (h : EntL c w es fs) : fs.findIdx? (fun e => (e.born : Int) == b) = aborn b es 0 := by
  have key : ∀ (es : List (Value × AV × Nat)) (fs : List MapEntry) (i : Nat), EntL c w es fs → aborn b es i = (fs.findIdx? (fun e => (e.born : Int) == b)).map (· + i) := by
    intro es fs i h
    induction h generalizing i with
    | nil => rfl
    | cons _ _ ih =>
      simp only [aborn, List.findIdx?_cons]
      split
      · simp
      · rw [ih, Option.map_map]
        congr 1
        funext x
        simp; omega
  rw [key es fs 0 h]
  simp
def aentryStore (s : AS) (x st v : AV) : Option AS :=
  match x, st with
  | .mp id, .sc (.int _ b) => match s.get id with
    | some (.map es cl) => match aborn b es 0 with
      | some j => match es[j]? with
        | some e => some (s.put id (.map (es.set j (e.1, v, e.2.2)) cl))
        | none => none
      | none => none
    | _ => none
  | _, _ => none
theorem EntL.get {c : Cx} {w : World} {es : List (Value × AV × Nat)} {fs : List MapEntry} (h : EntL c w es fs) {j : Nat} {e : Value × AV × Nat} (he : es[j]? = some e) : ∃ f, fs[j]? = some f ∧ f.key = e.1 ∧ f.born = e.2.2 := by
  induction h generalizing j with
  | nil => simp at he
  | cons h1 _ ih =>
    cases j with
    | zero => simp at he; subst he; exact ⟨_, rfl, rfl, rfl⟩
    | succ j => simpa using ih (by simpa using he)
theorem aentryStore_ok {P : Program} {G : Glob} {c : Cx} {w : World} {s s' : AS} {t : TypeId} {x st v : AV} {vx vs vv : Value} (hs : St G c w s) (h : aentryStore s x st v = some s') (hx : Rp c w x vx) (hst : Rp c w st vs) (hv : Rp c w v vv) :
    ∃ w', (Instr.entryStore t vx vs vv).run P w = .ok () w' ∧ Ext c w c w' ∧ St G c w' s' := by
  unfold aentryStore at h
  split at h
  · rename_i id k b
    split at h
    · rename_i es cl hb
      split at h
      · rename_i j hj
        split at h
        · rename_i e hej
          cases h
          cases hst
          cases hx with
          | @mp _ g hid =>
            obtain ⟨fs, hw, he⟩ := box_map hs hid hb
            obtain ⟨f, hf, hfk, hfb⟩ := he.get hej
            have hmod : fs.toArray.modify j (fun e => { e with val := vv }) = (fs.set j ⟨e.1, vv, e.2.2⟩).toArray := modify_set hf (by rw [← hfk, ← hfb])
            obtain ⟨x1, st⟩ := hs.put (b := .map (es.set j (e.1, v, e.2.2)) cl) (o := .map (fs.set j ⟨e.1, vv, e.2.2⟩).toArray cl) hid (chg_set w g _) (set_get w hw) (.map (he.set hv j))
            refine ⟨_, ?_, x1, st⟩
            have hfi : fs.toArray.findIdx? (fun e => (e.born : Int) == b) = some j := by
              rw [List.findIdx?_toArray, aborn_ok he, hj]
            simp only [Instr.entryStore, Sem.run_bind, Result.andThen_ok, run_getMap hw, asInt, asIntOf, Sem.run_pure, hfi, hmod]
            exact run_setMap _ hw
        · cases h
      · cases h
    · cases h
  · cases h
end AI
