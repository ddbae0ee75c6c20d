/- What is known of the version that is found; a slice that grows. -/
import Derived.Test.YtnijkdknnmgoeaaGreatCxE
import Derived.Test.YtnijkdknnmgoeaaGreatHd5
namespace Go.Proofs.YtnijkdknnmgoeaaGreat
open AI Go
namespace Cx
theorem head_any : Pure P G 11 [] (.sc (.bool true)) := e169_ok
section
variable {nu day kn : Int}
theorem vf_pre (l m : List Ar) : ∀ i, i ≤ l.length → vf nu day kn (l ++ m) i = vf nu day kn l i := by
  intro i
  induction i with
  | zero => intro _; rfl
  | succ i ih =>
    intro hi
    have h1 : (l ++ m)[i]? = l[i]? := List.getElem?_append_left (by omega)
    simp only [vf, h1, ih (by omega)]
    cases l[i]? with
    | none => rfl
    | some a =>
      simp only
      cases hv : vf nu day kn l i with
      | none => rfl
      | some j =>
        have := vf_lt hv
        have h2 : (l ++ m)[j]? = l[j]? := List.getElem?_append_left (by omega)
        simp only [h2]
/-- the article that is found -/
noncomputable def bst (nu day kn : Int) (l : List Ar) (i : Nat) : Option Ar := (vf nu day kn l i).bind fun j => l[j]?
theorem bst_none {l : List Ar} {i : Nat} (hi : i ≤ l.length) : bst nu day kn l i = none ↔ vf nu day kn l i = none := by
  unfold bst
  cases hv : vf nu day kn l i with
  | none => simp
  | some j =>
    have := vf_lt hv
    simp only [Option.bind_some, reduceCtorEq, iff_false]
    rw [List.getElem?_eq_getElem (by omega)]; simp
theorem bst_succ {l : List Ar} {i : Nat} {a : Ar} (h : l[i]? = some a) : bst nu day kn l (i + 1) = if fit nu day kn a then (match bst nu day kn l i with
    | none => some a
    | some b => if b.known ≤ a.known then some a else some b) else bst nu day kn l i := by
  have hi := (List.getElem?_eq_some_iff.1 h).1
  by_cases hf : fit nu day kn a
  · rw [if_pos hf]
    cases hv : vf nu day kn l i with
    | none =>
      have e : bst nu day kn l i = none := by unfold bst; rw [hv]; rfl
      rw [e]
      unfold bst
      rw [vf_first h hf hv]
      exact h
    | some j =>
      have hj := vf_lt hv
      obtain ⟨b, hb⟩ : ∃ b, l[j]? = some b := ⟨l[j]'(by omega), List.getElem?_eq_getElem (by omega)⟩
      have e : bst nu day kn l i = some b := by unfold bst; rw [hv]; exact hb
      rw [e]
      simp only
      by_cases hk : b.known ≤ a.known
      · rw [if_pos hk]; unfold bst; rw [vf_later h hf hv hb hk]; exact h
      · rw [if_neg hk]; unfold bst; rw [vf_keep h hf hv hb hk]; exact hb
  · rw [if_neg hf]; unfold bst; rw [vf_skip h hf]
/-- the versions that are known among the first i -/
def early (kn : Int) (l : List Ar) (i : Nat) : List Ar := (l.take i).filter fun a => decide (a.known ≤ kn)
theorem early_succ {l : List Ar} {i : Nat} {a : Ar} (h : l[i]? = some a) : early kn l (i + 1) = early kn l i ++ if a.known ≤ kn then [a] else [] := by
  unfold early
  rw [List.take_add_one, h, List.filter_append]
  by_cases hk : a.known ≤ kn <;> simp [hk]
theorem early_len (l : List Ar) (i : Nat) : (early kn l i).length ≤ i := by
  unfold early
  exact Nat.le_trans (List.length_filter_le _ _) (by simp; omega)
theorem bst_early (l : List Ar) : ∀ i, i ≤ l.length → bst nu day kn l i = bst nu day kn (early kn l i) (early kn l i).length := by
  intro i
  induction i with
  | zero => intro _; simp [early, bst, vf]
  | succ i ih =>
    intro hi
    have ih := ih (by omega)
    obtain ⟨a, ha⟩ : ∃ a, l[i]? = some a := ⟨l[i]'(by omega), List.getElem?_eq_getElem (by omega)⟩
    have hn : ∀ m, bst nu day kn (early kn l i ++ m) (early kn l i).length = bst nu day kn (early kn l i) (early kn l i).length := by
      intro m
      unfold bst
      rw [vf_pre _ _ _ (Nat.le_refl _)]
      cases hv : vf nu day kn (early kn l i) (early kn l i).length with
      | none => rfl
      | some j =>
        have := vf_lt hv
        simp only [Option.bind_some]
        exact List.getElem?_append_left this
    rw [bst_succ ha, early_succ ha]
    by_cases hk : a.known ≤ kn
    · rw [if_pos hk, List.length_append, List.length_singleton, bst_succ (l := early kn l i ++ [a]) (a := a) (by simp), hn, ih]
    · rw [if_neg hk, List.append_nil, if_neg (fun h => hk h.2.2.2), ih]
theorem vf_no {l : List Ar} : ∀ {n : Nat}, vf nu day kn l n = none → ∀ i a, i < n → l[i]? = some a → ¬ fit nu day kn a := by
  intro n
  induction n with
  | zero => intro _ i a hi; omega
  | succ n ih =>
    intro h i a hi ha hf
    cases hx : l[n]? with
    | none =>
      simp only [vf, hx] at h
      by_cases e : i = n
      · subst e; rw [ha] at hx; cases hx
      · exact ih h i a (by omega) ha hf
    | some b =>
      by_cases hb : fit nu day kn b
      · simp only [vf, hx, if_pos hb] at h
        split at h
        · cases h
        · split at h
          · cases h
          · split at h <;> cases h
      · rw [vf_skip hx hb] at h
        by_cases e : i = n
        · subst e; rw [ha] at hx; cases hx; exact hb hf
        · exact ih h i a (by omega) ha hf
theorem vf_best {l : List Ar} : ∀ {n v : Nat}, vf nu day kn l n = some v → ∃ b, l[v]? = some b ∧ fit nu day kn b ∧ ∀ i a, i < n → l[i]? = some a → fit nu day kn a → a.known < b.known ∨ (a.known = b.known ∧ i ≤ v) := by
  intro n
  induction n with
  | zero => intro v h; cases h
  | succ n ih =>
    intro v h
    cases hx : l[n]? with
    | none =>
      simp only [vf, hx] at h
      obtain ⟨b, h1, h2, h3⟩ := ih h
      refine ⟨b, h1, h2, fun i a hi ha hf => ?_⟩
      by_cases e : i = n
      · subst e; rw [ha] at hx; cases hx
      · exact h3 i a (by omega) ha hf
    | some c =>
      by_cases hc : fit nu day kn c
      · cases hv : vf nu day kn l n with
        | none =>
          rw [vf_first hx hc hv] at h
          cases h
          refine ⟨c, hx, hc, fun i a hi ha hf => ?_⟩
          by_cases e : i = n
          · subst e; rw [ha] at hx; cases hx; exact .inr ⟨rfl, Nat.le_refl _⟩
          · exact absurd hf (vf_no hv i a (by omega) ha)
        | some j =>
          obtain ⟨b, h1, h2, h3⟩ := ih hv
          by_cases hk : b.known ≤ c.known
          · rw [vf_later hx hc hv h1 hk] at h
            cases h
            refine ⟨c, hx, hc, fun i a hi ha hf => ?_⟩
            by_cases e : i = n
            · subst e; rw [ha] at hx; cases hx; exact .inr ⟨rfl, Nat.le_refl _⟩
            · rcases h3 i a (by omega) ha hf with h4 | ⟨h4, _⟩
              · exact .inl (by omega)
              · by_cases h5 : a.known < c.known
                · exact .inl h5
                · exact .inr ⟨by omega, by omega⟩
          · rw [vf_keep hx hc hv h1 hk] at h
            cases h
            refine ⟨b, h1, h2, fun i a hi ha hf => ?_⟩
            by_cases e : i = n
            · subst e; rw [ha] at hx; cases hx; exact .inl (by omega)
            · exact h3 i a (by omega) ha hf
      · rw [vf_skip hx hc] at h
        obtain ⟨b, h1, h2, h3⟩ := ih h
        refine ⟨b, h1, h2, fun i a hi ha hf => ?_⟩
        by_cases e : i = n
        · subst e; rw [ha] at hx; cases hx; exact absurd hf hc
        · exact h3 i a (by omega) ha hf
/-- the version is the same if those that become known later are left out -/
theorem vf_early_none {l : List Ar} (h : vf nu day kn l l.length = none) : vf nu day kn (early kn l l.length) (early kn l l.length).length = none := by
  rw [← bst_none (Nat.le_refl _), ← bst_early l l.length (Nat.le_refl _), bst_none (Nat.le_refl _)]
  exact h
theorem vf_early_some {l : List Ar} {v : Nat} {b : Ar} (h : vf nu day kn l l.length = some v) (hb : l[v]? = some b) : ∃ w, vf nu day kn (early kn l l.length) (early kn l l.length).length = some w ∧ (early kn l l.length)[w]? = some b := by
  have e : bst nu day kn l l.length = some b := by unfold bst; rw [h]; exact hb
  rw [bst_early l l.length (Nat.le_refl _)] at e
  unfold bst at e
  cases hv : vf nu day kn (early kn l l.length) (early kn l l.length).length with
  | none => rw [hv] at e; cases e
  | some w => rw [hv] at e; exact ⟨w, rfl, e⟩
noncomputable def fitb (nu day kn : Int) (a : Ar) : Bool := @decide (fit nu day kn a) (Classical.propDecidable _)
theorem fitb_T {a : Ar} (h : fit nu day kn a) : fitb nu day kn a = true := by unfold fitb; exact @decide_eq_true _ (_) h
theorem fitb_F {a : Ar} (h : ¬ fit nu day kn a) : fitb nu day kn a = false := by unfold fitb; exact @decide_eq_false _ (_) h
theorem fitb_iff {a : Ar} : fitb nu day kn a = true ↔ fit nu day kn a := ⟨fun h => by unfold fitb at h; exact @of_decide_eq_true _ (_) h, fitb_T⟩
theorem fitb_not {a : Ar} (h : fitb nu day kn a = false) : ¬ fit nu day kn a := fun e => by rw [fitb_T e] at h; cases h
end
/-- how the slice of the early versions may grow -/
def Gr (ow : Own) (F : List Nat) (nr : Nat) (el : List Ar) : Prop := (ow = .full ∧ F = [] ∧ el = []) ∨ ∃ r, ow = .row r 14 ∧ F = [r] ∧ nr = r + 1
theorem i62 : (P.info? 62).map (fun i => (i.size, i.bytes, i.zero.map (·.cells.size))) = some (14, 184, some 14) := by kernel_rfl
theorem arC_one (a : Ar) : (arC a).all one = true := by
  obtain ⟨_, _, _, _, _, _, _, _, ⟨_, _, _, _, _, _⟩⟩ := a
  rfl
theorem grow {ow : Own} {F : List Nat} {nr : Nat} {el : List Ar} (h : Gr ow F nr el) (hl : el.length ≤ 1000) (a : Ar) : ∃ ow' F' nr', (∀ h nx, aappend P ⟨h, nx, F, nr⟩ 29 29 (.sl ow el.length (rows arC el)) (.sl .full 1 (arC a)) = some (.sl ow' (el ++ [a]).length (rows arC (el ++ [a])), ⟨h, nx, F', nr'⟩)) ∧ Gr ow' F' nr' (el ++ [a]) ∧ nr ≤ nr' := by
  have hi := i62
  cases hq : P.info? 62 with
  | none => rw [hq] at hi; cases hi
  | some i =>
    rw [hq] at hi
    simp only [Option.map_some, Option.some.injEq, Prod.mk.injEq] at hi
    obtain ⟨h1, h2, h3⟩ := hi
    cases hz : i.zero with
    | none => rw [hz] at h3; cases h3
    | some z =>
      rw [hz] at h3
      simp only [Option.map_some, Option.some.injEq] at h3
      refine ⟨.row nr 14, [nr], nr + 1, fun h' nx => ?_, .inr ⟨nr, rfl, rfl, rfl⟩, Nat.le_succ _⟩
      have hok : okOwn i.size F ow = true := by
        rcases h with ⟨rfl, rfl, rfl⟩ | ⟨r, rfl, rfl, rfl⟩
        · rfl
        · simp [okOwn, h1, memN, Nat.beq_refl]
      have key := append_row (s := ⟨h', nx, F, nr⟩) (own := ow) (o2 := .full) (n := el.length) (m := 1) (cs := rows arC el) (ns := arC a) u29 hq hz ⟨by rw [h3, h1], by omega⟩ u29 (by rw [h1]; exact rows_len arC_len el) (by rw [h1, arC_len]) (arC_one a) (by rw [h2]; omega) (by omega) (by omega) hok
      rw [key]
      have e1 : rows arC el ++ arC a = rows arC (el ++ [a]) := by rw [rows_append, rows_cons]; simp [rows]
      have e2 : el.length + 1 = (el ++ [a]).length := by simp
      have e3 : (⟨h', nx, F, nr⟩ : AS).row ow = ⟨h', nx, [nr], nr + 1⟩ := by
        unfold AS.row
        simp only [AS.mk.injEq, true_and, and_true]
        rcases h with ⟨rfl, rfl, rfl⟩ | ⟨r, rfl, rfl, rfl⟩
        · rfl
        · simp [own2, delN, Nat.beq_refl]
      rw [e1, e2, h1, e3]
theorem Gr.F {ow : Own} {F : List Nat} {nr : Nat} {el : List Ar} (h : Gr ow F nr el) (r : Nat) (hr : memN r F = true) : r < nr := by
  rcases h with ⟨rfl, rfl, rfl⟩ | ⟨q, rfl, rfl, rfl⟩
  · cases hr
  · simp only [memN] at hr
    split at hr
    · rename_i hb; have := beq_true hb; omega
    · cases hr
theorem Gr.un {ow : Own} {F : List Nat} {nr : Nat} {el : List Ar} (h : Gr ow F nr el) (n : Nat) : under n nr (.sl ow el.length (rows arC el)) = true := by
  simp only [under, Bool.and_eq_true]
  refine ⟨?_, unL (arC_plain el)⟩
  rcases h with ⟨rfl, rfl, rfl⟩ | ⟨q, rfl, rfl, rfl⟩
  · rfl
  · simp
theorem Gr.unL {ow : Own} {F : List Nat} {nr : Nat} {el : List Ar} (h : Gr ow F nr el) (n : Nat) : underL n nr [.sl .full 0 [], .sl .full 0 [], .sl ow el.length (rows arC el)] = true := by
  simp only [underL, h.un n]; rfl
theorem version_early {ow : Own} {el : List Ar} (hm : el.length ≤ 1000) (nu day kn : Int) (s : AS) : Sound P G (.call 16 [.agg [.sl .full 0 [], .sl .full 0 [], .sl ow el.length (rows arC el)], .sc (.int .i64 nu), .sc (.int .i64 day), .sc (.int .i64 kn)] s (.ret (vres (vf nu day kn el el.length))) s) := by
  refine call_weak ?_ (version_any [] [] el nu day kn (by omega) s)
  intro c w vs h
  cases h with
  | cons h1 t =>
    refine .cons ?_ t
    cases h1 with
    | agg h2 =>
      cases h2 with
      | cons a1 t1 => cases t1 with
        | cons a2 t2 => cases t2 with
          | cons a3 t3 => exact .agg (.cons (a1.lost) (.cons (a2.lost) (.cons (a3.lost) t3)))
theorem leF {i n : Nat} (h : ¬ n ≤ i) : leI ((n : Nat) : Int) ((i : Nat) : Int) = false := by rw [leI_eq]; simp; omega
theorem le0 {i : Nat} : leI 0 ((i : Nat) : Int) = true := by rw [leI_eq]; simp
end Cx
end Go.Proofs.YtnijkdknnmgoeaaGreat
