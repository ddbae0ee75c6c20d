/- Plain laws on the lists that the laws make: they are valid, and are written. -/
import Derived.Test.YtibgibjmpcajkaaGreatDoorBankPk
namespace BankS
open Go
theorem nm_ok (j : Int) (h0 : 0 ≤ j) (h1 : j < 6) : isName (nmL j) = true := by
  have : j = 0 ∨ j = 1 ∨ j = 2 ∨ j = 3 ∨ j = 4 ∨ j = 5 := by omega
  rcases this with rfl | rfl | rfl | rfl | rfl | rfl <;> decide
theorem payOf_ok (i : Nat) (x : Tri) (h : i < 30) : payOk (payOf i x) = true := by
  have a := pick_bd x.1 33333333 (by omega)
  have b := pick_bd x.2.1 6 (by omega)
  have c := pick_bd x.2.2 1000000000000 (by omega)
  have d := pick_bd x.2.1 36525 (by omega)
  unfold payOk payOf
  simp only []
  rw [nm_ok _ b.1 b.2, show numOk (30 * pickP x.1 33333333 + (i : Int)) = true from decide_eq_true (by omega), show centsOk (1 + pickP x.2.2 1000000000000) = true from decide_eq_true (by omega), show dayOk (pickP x.2.1 36525) = true from decide_eq_true (by omega)]
  rfl
theorem ansOf_ok (i : Nat) (x : Tri) (h : i < 30) : ansOk (ansOf i x) = true := by
  have a := pick_bd x.1 33333333 (by omega)
  have b := pick_bd x.2.1 1000000000 (by omega)
  have c := pick_bd x.2.2 1000000000000 (by omega)
  have d := pick_bd x.2.1 36525 (by omega)
  have k := pick_bd x.2.2 4 (by omega)
  unfold ansOk ansOf
  simp only []
  rw [show numOk (30 * pickP x.1 33333333 + (i : Int)) = true from decide_eq_true (by omega), show numOk (pickP x.2.1 1000000000) = true from decide_eq_true (by omega), show dayOk (pickP x.2.1 36525) = true from decide_eq_true (by omega)]
  by_cases h2 : 1 + pickP x.2.2 4 = 2 ∨ 1 + pickP x.2.2 4 = 4
  · rw [if_pos h2, if_pos h2, show centsOk (1 + pickP x.2.2 1000000000000) = true from decide_eq_true (by omega)]; rfl
  · rw [if_neg h2, if_neg h2, decide_eq_true (by omega)]; rfl
theorem listOf_all {α : Type} (f : Nat → Tri → α) (ok : α → Bool) (h : ∀ i x, i < 30 → ok (f i x) = true) (i : Nat) (l : List Tri) (hl : i + l.length ≤ 30) : (listOf f i l).all ok = true := by
  induction l generalizing i with
  | nil => rfl
  | cons x l ih =>
    rw [List.length_cons] at hl
    rw [listOf, List.all_cons, h i x (by omega), ih (i + 1) (by omega)]; rfl
theorem listOf_mod {α : Type} (f : Nat → Tri → α) (g : α → Int) (h : ∀ i x, i < 30 → g (f i x) % 30 = (i : Int)) (i : Nat) (l : List Tri) (hl : i + l.length ≤ 30) : ∀ y ∈ (listOf f i l).map g, (i : Int) ≤ y % 30 := by
  induction l generalizing i with
  | nil => intro y hy; cases hy
  | cons x l ih =>
    rw [List.length_cons] at hl
    intro y hy
    rw [listOf, List.map_cons] at hy
    rcases List.mem_cons.1 hy with rfl | hy
    · rw [h i x (by omega)]; omega
    · have := ih (i + 1) (by omega) y hy; omega
theorem listOf_once {α : Type} (f : Nat → Tri → α) (g : α → Int) (h : ∀ i x, i < 30 → g (f i x) % 30 = (i : Int)) (i : Nat) (l : List Tri) (hl : i + l.length ≤ 30) : twice ((listOf f i l).map g) = false := by
  induction l generalizing i with
  | nil => rfl
  | cons x l ih =>
    rw [List.length_cons] at hl
    rw [listOf, List.map_cons, twice, ih (i + 1) (by omega), Bool.or_false]
    cases hc : ((listOf f (i + 1) l).map g).contains (g (f i x)) with
    | false => rfl
    | true =>
      have h1 := listOf_mod f g h (i + 1) l (by omega) _ (List.contains_iff_mem.1 hc)
      rw [h i x (by omega)] at h1
      omega
theorem pays_len (l : List Tri) : (pays l).length ≤ 30 := by unfold pays; rw [listOf_len, List.length_take]; omega
theorem anss_len (l : List Tri) : (anss l).length ≤ 30 := by unfold anss; rw [listOf_len, List.length_take]; omega
theorem pays_all (l : List Tri) : (pays l).all payOk = true := listOf_all payOf payOk payOf_ok 0 _ (by rw [List.length_take]; omega)
theorem anss_all (l : List Tri) : (anss l).all ansOk = true := listOf_all ansOf ansOk ansOf_ok 0 _ (by rw [List.length_take]; omega)
theorem pays_once (l : List Tri) : twice ((pays l).map (·.1)) = false := listOf_once payOf (·.1) (fun i x hi => by unfold payOf; simp only []; omega) 0 _ (by rw [List.length_take]; omega)
theorem anss_once (l : List Tri) : twice ((anss l).map (·.1)) = false := listOf_once ansOf (·.1) (fun i x hi => by unfold ansOf; simp only []; omega) 0 _ (by rw [List.length_take]; omega)
def fileOfP (l : List Tri) : Bs := file payW ((pays l).map payLine) (((pays l).map (fun p : Pay => p.2.2.1)).sum).toNat
def fileOfA (l : List Tri) : Bs := file ansW ((anss l).map ansLine) (((anss l).map (fun a : Ans => a.2.2.2.1)).sum).toNat
theorem pays_write (l : List Tri) : writeP (pays l) = (fileOfP l, 0) := by
  have := pays_len l
  unfold writeP
  rw [if_neg (by omega), if_neg (by rw [pays_all]; simp), if_neg (by rw [pays_once]; simp)]
  rfl
theorem anss_write (l : List Tri) : writeA (anss l) = (fileOfA l, 0) := by
  have := anss_len l
  unfold writeA
  rw [if_neg (by omega), if_neg (by rw [anss_all]; simp), if_neg (by rw [anss_once]; simp)]
  rfl
theorem writeP_inj (a b : List Pay) (t : Bs) (h1 : writeP a = (t, 0)) (h2 : writeP b = (t, 0)) : a = b := by
  have e1 := (readP_iff t a).2 h1
  rw [(readP_iff t b).2 h2] at e1
  injection e1 with e1
  exact e1.symm
theorem writeA_inj (a b : List Ans) (t : Bs) (h1 : writeA a = (t, 0)) (h2 : writeA b = (t, 0)) : a = b := by
  have e1 := (readA_iff t a).2 h1
  rw [(readA_iff t b).2 h2] at e1
  injection e1 with e1
  exact e1.symm
/-- a file of payments is no file of answers -/
theorem kinds_apart (a : List Pay) (b : List Ans) (t : Bs) (h1 : writeP a = (t, 0)) (h2 : writeA b = (t, 0)) : False := by
  obtain ⟨_, _, _, e1⟩ := writeP_ok h1
  obtain ⟨_, _, _, e2⟩ := writeA_ok h2
  have h3 : t.head? = some 112 := by rw [e1]; rfl
  have h4 : t.head? = some 97 := by rw [e2]; rfl
  rw [h3] at h4
  injection h4 with h4
  revert h4; decide
theorem files_iff (l m : List Tri) : fileOfP l = fileOfP m ↔ pays l = pays m := by
  constructor
  · intro h; exact writeP_inj _ _ (fileOfP l) (pays_write l) (by rw [h]; exact pays_write m)
  · intro h; have h1 := pays_write l; rw [h, pays_write m] at h1; injection h1 with h1; exact h1.symm
theorem filesA_iff (l m : List Tri) : fileOfA l = fileOfA m ↔ anss l = anss m := by
  constructor
  · intro h; exact writeA_inj _ _ (fileOfA l) (anss_write l) (by rw [h]; exact anss_write m)
  · intro h; have h1 := anss_write l; rw [h, anss_write m] at h1; injection h1 with h1; exact h1.symm
theorem files_ne (l m : List Tri) : fileOfP l ≠ fileOfA m := fun h => kinds_apart _ _ (fileOfP l) (pays_write l) (by rw [h]; exact anss_write m)
theorem pays_acc (l : List Tri) : ∀ p ∈ pays l, p.2.1.length ≤ 1000 := fun p hp => by
  have := payOk_parts (List.all_eq_true.1 (pays_all l) p hp)
  have := isName_len _ this.2.1
  omega
open Go.Proofs.YtibgibjmpcajkaaGreatDoor in
theorem file_len (word : Bs) (lines : List Bs) (n : Nat) (hw : word.length ≤ 100) (hl : lines.length ≤ 400) (hx : ∀ x ∈ lines, x.length ≤ 200) (hn : n < 1000000000000000) : (file word lines n).length ≤ 100000 := by
  have h1 := join_len lines 200 hx
  have h2 := dec_small lines.length (by omega)
  have h3 := dec_small n hn
  have h4 := pad_len3 (chk (body word lines)) (chk_lt _)
  unfold file last
  rw [List.length_append, List.length_append, List.length_append, List.length_append, List.length_append, h4]
  have h5 : (body word lines).length ≤ 100 + 1 + 15 + 1 + (lines.length * 201 + 1) := by
    unfold body
    split
    · simp only [List.length_append, List.length_cons, List.length_nil]; omega
    · simp only [List.length_append, List.length_cons, List.length_nil]; omega
  simp only [List.length_cons, List.length_nil]
  omega
theorem sum_bd (l : List Int) (m : Int) (h : ∀ x ∈ l, 0 ≤ x ∧ x ≤ m) (_hm : 0 ≤ m) : 0 ≤ l.sum ∧ l.sum ≤ l.length * m := by
  induction l with
  | nil => simp
  | cons x l ih =>
    have h1 := h x List.mem_cons_self
    have h2 := ih (fun y hy => h y (List.mem_cons_of_mem _ hy))
    rw [List.sum_cons, List.length_cons]
    have h3 : ((l.length + 1 : Nat) : Int) * m = (l.length : Int) * m + m := by rw [Int.natCast_add, Int.add_mul]; simp
    omega
open Go.Proofs.YtibgibjmpcajkaaGreatDoor in
theorem writeP_len (l : List Pay) (t : Bs) (h : writeP l = (t, 0)) : t.length ≤ 100000 := by
  obtain ⟨h1, h2, _, h4⟩ := writeP_ok h
  rw [h4]
  have hs := sum_bd (l.map (fun p : Pay => p.2.2.1)) 1000000000000 (by
    intro x hx
    obtain ⟨p, hp, rfl⟩ := List.mem_map.1 hx
    have := payOk_parts (List.all_eq_true.1 h2 p hp)
    omega) (by omega)
  rw [List.length_map] at hs
  refine file_len _ _ _ (by decide) (by rw [List.length_map]; exact h1) ?_ (by omega)
  intro x hx
  obtain ⟨p, hp, rfl⟩ := List.mem_map.1 hx
  exact payLine_len p (List.all_eq_true.1 h2 p hp)
open Go.Proofs.YtibgibjmpcajkaaGreatDoor in
theorem writeA_len (l : List Ans) (t : Bs) (h : writeA l = (t, 0)) : t.length ≤ 100000 := by
  obtain ⟨h1, h2, _, h4⟩ := writeA_ok h
  rw [h4]
  have hs := sum_bd (l.map (fun a : Ans => a.2.2.2.1)) 1000000000000 (by
    intro x hx
    obtain ⟨p, hp, rfl⟩ := List.mem_map.1 hx
    have := ansOk_parts (List.all_eq_true.1 h2 p hp)
    omega) (by omega)
  rw [List.length_map] at hs
  refine file_len _ _ _ (by decide) (by rw [List.length_map]; exact h1) ?_ (by omega)
  intro x hx
  obtain ⟨p, hp, rfl⟩ := List.mem_map.1 hx
  exact ansLine_len p (List.all_eq_true.1 h2 p hp)
theorem fileP_len (l : List Tri) : (fileOfP l).length ≤ 100000 := writeP_len _ _ (pays_write l)
theorem fileA_len (l : List Tri) : (fileOfA l).length ≤ 100000 := writeA_len _ _ (anss_write l)
end BankS
