/- The walk of damaged. -/
import Derived.Test.YtibgibjmpcajkaaGreatDoorBankAp
import Derived.Test.YtibgibjmpcajkaaGreatDoorBankIn
import Derived.IntWalk
import Derived.Laws.IdiomStrings
namespace Go.Proofs.YtibgibjmpcajkaaGreatDoor
open Go.RowKit BankS
/-- 'string([]byte{..})' of bytes that lie in memory -/
theorem convN (W : World) (g : Nat) (us : List UInt8) (h : ∀ j u, us[j]? = some u → W.cell? ⟨g, j, none⟩ = some (.int .u8 u.toNat)) (n : Nat) (hn : n = us.length) :
    (convert 49 9 (.slice (some ⟨g, 0, none⟩) n n)).run Tryz.prog W = .ok (.string ⟨us.toArray⟩) W := by
  subst hn
  exact run_convert_bytes_back (P := Tryz.prog) W 49 9 5 ⟨g, 0, none⟩ us.length us Tryz.underlying49 Tryz.underlying5 Tryz.underlying9
    (fun j hj => by
      have e : (⟨g, 0, none⟩ : Addr).add j = ⟨g, 0 + j, none⟩ := by simp [Addr.add]; intro h0; exact h0.symm
      rw [e, Nat.zero_add, h j us[j] (List.getElem?_eq_getElem hj)])
theorem bytes_new (w : World) (us : List UInt8) (cs : Array Value) (hcs : cs = (us.map (fun u => Value.int .u8 u.toNat)).toArray) (T : TypeId) : ∀ j u, us[j]? = some u → (w.alloc (.cells cs T)).cell? ⟨w.heap.size, j, none⟩ = some (.int .u8 u.toNat) := by
  intro j u h
  rw [cell_row (heap_new w cs T), hcs]
  simp [h]
theorem L_to (s : ByteArray) (k : Nat) : L (s.extract 0 k) = (L s).take k := Lib.extract_from_zero s k
def RetD (y : Int) (s : ByteArray) (w : World) (e : Ending) (w' : World) : Prop := ∃ d, e = .returned (.string d) ∧ Hid (DmK (pickP y 4) (L s) (L d)) ∧ d.size ≤ s.size + 1 ∧ Hid (Below w.heap.size w w')
set_option maxHeartbeats 8000000 in
set_option maxRecDepth 100000 in
theorem damaged_any (s : ByteArray) (wy pl : Int) (c : UInt8) (w : World) (hs : s.size ≤ 200000) (y0 : -9223372036854775808 ≤ wy) (y1 : wy ≤ 9223372036854775807) (p0 : -9223372036854775808 ≤ pl) (p1 : pl ≤ 9223372036854775807) :
    Calls Tryz.prog 24 #[.string s, .int .i64 wy, .int .i64 pl, .int .u8 c.toNat] w (RetD wy s w) := by
  go_enter Tryz.func24, Tryz.ntmps24
  by_cases h2 : s.size < 2
  · go_wp2_with fail
    go_ret
    exact ⟨s, rfl, Lib.hid (Or.inl rfl), by omega, Lib.hid (Below.refl _ _)⟩
  · go_wp2_with fail
    refine (pick_any pl s.size _ p0 p1 (by omega) (by omega)).mono ?_
    rintro e w1 ⟨x, rfl, _, x0, x1, rfl⟩
    go_wp2_with fail
    refine (pick_any wy 4 _ y0 y1 (by omega) (by omega)).mono ?_
    rintro e w1 ⟨y, rfl, HY, z0, z1, rfl⟩
    obtain ⟨k, rfl⟩ := Int.eq_ofNat_of_zero_le x0
    have hk : k < s.size := by omega
    have hk' : k < (L s).length := by rw [← size_L]; exact hk
    clear x0 x1
    have hy : y = 0 ∨ y = 1 ∨ y = 2 ∨ y = 3 := by omega
    rcases hy with rfl | rfl | rfl | rfl
    · go_wp2_with fail
      refine wp_region_held_drew (S := (fun _ => True)) (by kernel_rfl) trivial (fun hHeld => ?_)
      refine takeL (i := 0) (v := ?_) rfl (by kernel_rfl) (by kernel_rfl) (by kernel_rfl) (fun _ _ _ h => h) (Or.inl ⟨by rfl, ?_⟩) trivial ?_
      rotate_left
      · intro wS hSw; go_simp; try with_reducible rfl
      try simp only [Act.put, List.setIfInBounds_toArray, List.set_cons_zero, List.set_cons_succ]
      refine takeL (i := 1) (v := ?_) rfl (by kernel_rfl) (by kernel_rfl) (by kernel_rfl) (fun _ _ _ h => h) (Or.inl ⟨by rfl, ?_⟩) trivial ?_
      rotate_left
      · intro wS hSw; go_simp; try with_reducible rfl
      try simp only [Act.put, List.setIfInBounds_toArray, List.set_cons_zero, List.set_cons_succ]
      refine takeL (i := 2) (v := ?_) rfl (by kernel_rfl) (by kernel_rfl) (by kernel_rfl) (fun _ _ _ h => h) (Or.inl ⟨by rfl, ?_⟩) trivial ?_
      rotate_left
      · intro wS hSw; have g1 : (0 : Int) ≤ (k : Int) := (by omega); have g2 : (k : Int) ≤ (s.size : Int) := (by omega); go_simp; try with_reducible rfl
      try simp only [Act.put, List.setIfInBounds_toArray, List.set_cons_zero, List.set_cons_succ]
      refine takeL (i := 3) (v := ?_) rfl (by kernel_rfl) (by kernel_rfl) (by kernel_rfl) (fun _ _ _ h => h) (Or.inl ⟨by rfl, ?_⟩) trivial ?_
      rotate_left
      · intro wS hSw; go_simp; try with_reducible rfl
      try simp only [Act.put, List.setIfInBounds_toArray, List.set_cons_zero, List.set_cons_succ]
      refine takeL (i := 7) (v := ?_) rfl (by kernel_rfl) (by kernel_rfl) (by kernel_rfl) (fun _ _ _ h => h) (Or.inl ⟨by rfl, ?_⟩) trivial ?_
      rotate_left
      · intro wS hSw; go_simp; try with_reducible rfl
      try simp only [Act.put, List.setIfInBounds_toArray, List.set_cons_zero, List.set_cons_succ]
      refine takeL (i := 8) (v := ?_) rfl (by kernel_rfl) (by kernel_rfl) (by kernel_rfl) (fun _ _ _ h => h) (Or.inl ⟨by rfl, ?_⟩) trivial ?_
      rotate_left
      · intro wS hSw; go_simp; try with_reducible rfl
      try simp only [Act.put, List.setIfInBounds_toArray, List.set_cons_zero, List.set_cons_succ]
      refine takeL (i := 9) (v := ?_) rfl (by kernel_rfl) (by kernel_rfl) (by kernel_rfl) (fun _ _ _ h => h) (Or.inl ⟨by rfl, ?_⟩) trivial ?_
      rotate_left
      · intro wS hSw; have g1 : IntKind.i64.wrap ((k : Int) + 1) = (k : Int) + 1 := IntWalk.i64_in _ (by omega); go_simp; try with_reducible rfl
      try simp only [Act.put, List.setIfInBounds_toArray, List.set_cons_zero, List.set_cons_succ]
      refine takeL (i := 10) (v := ?_) rfl (by kernel_rfl) (by kernel_rfl) (by kernel_rfl) (fun _ _ _ h => h) (Or.inl ⟨by rfl, ?_⟩) trivial ?_
      rotate_left
      · intro wS hSw; have g1 : (0 : Int) ≤ (k : Int) + 1 := (by omega); have g2 : (k : Int) + 1 ≤ (s.size : Int) := (by omega); have g3 : ((k : Int) + 1).toNat = k + 1 := (by omega); go_simp; try with_reducible rfl
      try simp only [Act.put, List.setIfInBounds_toArray, List.set_cons_zero, List.set_cons_succ]
      refine readyL (i := 4) (by kernel_rfl) rfl (fun K hK => ?_)
      go_simp
      refine hK.out _ _ trivial (fun _ => ?_)
      clear hK K
      try simp only [Act.put, List.setIfInBounds_toArray, List.set_cons_zero, List.set_cons_succ]
      refine readyL (i := 5) (by kernel_rfl) rfl (fun K hK => ?_)
      go_simp
      have cv := convN (w.alloc (.cells #[.int .u8 c.toNat] 5)).drew w.heap.size [c] (bytes_new w [c] _ rfl _) 1 rfl
      go_simp
      refine hK.out _ _ trivial (fun _ => ?_)
      clear hK K
      try simp only [Act.put, List.setIfInBounds_toArray, List.set_cons_zero, List.set_cons_succ]
      refine takeL (i := 6) (v := ?_) rfl (by kernel_rfl) (by kernel_rfl) (by kernel_rfl) (fun _ _ _ h => h) (Or.inl ⟨by rfl, ?_⟩) trivial ?_
      rotate_left
      · intro wS hSw; have g1 : ¬ 9223372036854775807 < min k s.size + 1 := (by omega); go_simp; try with_reducible rfl
      try simp only [Act.put, List.setIfInBounds_toArray, List.set_cons_zero, List.set_cons_succ]
      refine takeL (i := 11) (v := ?_) rfl (by kernel_rfl) (by kernel_rfl) (by kernel_rfl) (fun _ _ _ h => h) (Or.inl ⟨by rfl, ?_⟩) trivial ?_
      rotate_left
      · intro wS hSw; have g1 : ¬ 9223372036854775807 < min k s.size + 1 + (s.size - (k + 1)) := (by omega); go_simp; try with_reducible rfl
      try simp only [Act.put, List.setIfInBounds_toArray, List.set_cons_zero, List.set_cons_succ]
      refine takeL (i := 12) (v := ?_) rfl (by kernel_rfl) (by kernel_rfl) (by kernel_rfl) (fun _ _ _ h => h) (Or.inl ⟨by rfl, ?_⟩) trivial ?_
      rotate_left
      · intro wS hSw; go_simp; try with_reducible rfl
      try simp only [Act.put, List.setIfInBounds_toArray, List.set_cons_zero, List.set_cons_succ]
      refine wpAnyH_done (by kernel_rfl) ?_ _
      go_wp2_with fail
      go_ret
      refine ⟨_, rfl, Lib.hid (Or.inr (Or.inl ⟨HY.out.symm, (L s).take k, (L s).drop (k + 1), (L s)[k], c, split_at _ _ hk', ?_⟩)), ?_, Lib.hid (((Below.refl _ _).alloc (Nat.le_refl _) _).drew)⟩
      · rw [L_app, L_app, L_to, L_from]; simp [L]
      · simp only [ByteArray.size_append, ByteArray.size_extract]; show _ + 1 + _ ≤ _; omega
    · go_wp2_with fail
      clear hk hk'
      refine (pick_any pl (s.size - 1) _ p0 p1 (by omega) (by omega)).mono ?_
      rintro e w1 ⟨x, rfl, _, x0, x1, rfl⟩
      obtain ⟨k, rfl⟩ := Int.eq_ofNat_of_zero_le x0
      have hk : k + 1 < s.size := by omega
      have hk' : k + 1 < (L s).length := by rw [← size_L]; exact hk
      clear x0 x1
      go_wp2_with fail
      refine wp_region_held_drew (S := (fun _ => True)) (by kernel_rfl) trivial (fun hHeld => ?_)
      refine takeL (i := 0) (v := ?_) rfl (by kernel_rfl) (by kernel_rfl) (by kernel_rfl) (fun _ _ _ h => h) (Or.inl ⟨by rfl, ?_⟩) trivial ?_
      rotate_left
      · intro wS hSw; go_simp; try with_reducible rfl
      try simp only [Act.put, List.setIfInBounds_toArray, List.set_cons_zero, List.set_cons_succ]
      refine takeL (i := 1) (v := ?_) rfl (by kernel_rfl) (by kernel_rfl) (by kernel_rfl) (fun _ _ _ h => h) (Or.inl ⟨by rfl, ?_⟩) trivial ?_
      rotate_left
      · intro wS hSw; go_simp; try with_reducible rfl
      try simp only [Act.put, List.setIfInBounds_toArray, List.set_cons_zero, List.set_cons_succ]
      refine takeL (i := 2) (v := ?_) rfl (by kernel_rfl) (by kernel_rfl) (by kernel_rfl) (fun _ _ _ h => h) (Or.inl ⟨by rfl, ?_⟩) trivial ?_
      rotate_left
      · intro wS hSw; have g1 : (0 : Int) ≤ (k : Int) := (by omega); have g2 : (k : Int) ≤ (s.size : Int) := (by omega); go_simp; try with_reducible rfl
      try simp only [Act.put, List.setIfInBounds_toArray, List.set_cons_zero, List.set_cons_succ]
      refine takeL (i := 3) (v := ?_) rfl (by kernel_rfl) (by kernel_rfl) (by kernel_rfl) (fun _ _ _ h => h) (Or.inl ⟨by rfl, ?_⟩) trivial ?_
      rotate_left
      · intro wS hSw; go_simp; try with_reducible rfl
      try simp only [Act.put, List.setIfInBounds_toArray, List.set_cons_zero, List.set_cons_succ]
      refine takeL (i := 4) (v := ?_) rfl (by kernel_rfl) (by kernel_rfl) (by kernel_rfl) (fun _ _ _ h => h) (Or.inl ⟨by rfl, ?_⟩) trivial ?_
      rotate_left
      · intro wS hSw; go_simp; try with_reducible rfl
      try simp only [Act.put, List.setIfInBounds_toArray, List.set_cons_zero, List.set_cons_succ]
      refine takeL (i := 5) (v := ?_) rfl (by kernel_rfl) (by kernel_rfl) (by kernel_rfl) (fun _ _ _ h => h) (Or.inl ⟨by rfl, ?_⟩) trivial ?_
      rotate_left
      · intro wS hSw; have g1 : IntKind.i64.wrap ((k : Int) + 1) = (k : Int) + 1 := IntWalk.i64_in _ (by omega); go_simp; try with_reducible rfl
      try simp only [Act.put, List.setIfInBounds_toArray, List.set_cons_zero, List.set_cons_succ]
      refine takeL (i := 6) (v := ?_) rfl (by kernel_rfl) (by kernel_rfl) (by kernel_rfl) (fun _ _ _ h => h) (Or.inl ⟨by rfl, ?_⟩) trivial ?_
      rotate_left
      · intro wS hSw; go_simp; try with_reducible rfl
      try simp only [Act.put, List.setIfInBounds_toArray, List.set_cons_zero, List.set_cons_succ]
      refine takeL (i := 7) (v := ?_) rfl (by kernel_rfl) (by kernel_rfl) (by kernel_rfl) (fun _ _ _ h => h) (Or.inl ⟨by rfl, ?_⟩) trivial ?_
      rotate_left
      · intro wS hSw; have g1 : IntKind.i64.wrap ((k : Int) + 2) = (k : Int) + 2 := IntWalk.i64_in _ (by omega); go_simp; try with_reducible rfl
      try simp only [Act.put, List.setIfInBounds_toArray, List.set_cons_zero, List.set_cons_succ]
      refine takeL (i := 8) (v := ?_) rfl (by kernel_rfl) (by kernel_rfl) (by kernel_rfl) (fun _ _ _ h => h) (Or.inl ⟨by rfl, ?_⟩) trivial ?_
      rotate_left
      · intro wS hSw; have g1 : (0 : Int) ≤ (k : Int) + 1 := (by omega); have g2 : (k : Int) + 1 ≤ (k : Int) + 2 := (by omega); have g3 : (k : Int) + 2 ≤ (s.size : Int) := (by omega); have g4 : ((k : Int) + 1).toNat = k + 1 := (by omega); have g5 : ((k : Int) + 2).toNat = k + 2 := (by omega); go_simp; try with_reducible rfl
      try simp only [Act.put, List.setIfInBounds_toArray, List.set_cons_zero, List.set_cons_succ]
      refine takeL (i := 9) (v := ?_) rfl (by kernel_rfl) (by kernel_rfl) (by kernel_rfl) (fun _ _ _ h => h) (Or.inl ⟨by rfl, ?_⟩) trivial ?_
      rotate_left
      · intro wS hSw; have g1 : ¬ 9223372036854775807 < min k s.size + (min (k + 2) s.size - (k + 1)) := (by omega); go_simp; try with_reducible rfl
      try simp only [Act.put, List.setIfInBounds_toArray, List.set_cons_zero, List.set_cons_succ]
      refine takeL (i := 10) (v := ?_) rfl (by kernel_rfl) (by kernel_rfl) (by kernel_rfl) (fun _ _ _ h => h) (Or.inl ⟨by rfl, ?_⟩) trivial ?_
      rotate_left
      · intro wS hSw; go_simp; try with_reducible rfl
      try simp only [Act.put, List.setIfInBounds_toArray, List.set_cons_zero, List.set_cons_succ]
      refine takeL (i := 11) (v := ?_) rfl (by kernel_rfl) (by kernel_rfl) (by kernel_rfl) (fun _ _ _ h => h) (Or.inl ⟨by rfl, ?_⟩) trivial ?_
      rotate_left
      · intro wS hSw; go_simp; try with_reducible rfl
      try simp only [Act.put, List.setIfInBounds_toArray, List.set_cons_zero, List.set_cons_succ]
      refine takeL (i := 12) (v := ?_) rfl (by kernel_rfl) (by kernel_rfl) (by kernel_rfl) (fun _ _ _ h => h) (Or.inl ⟨by rfl, ?_⟩) trivial ?_
      rotate_left
      · intro wS hSw; go_simp; try with_reducible rfl
      try simp only [Act.put, List.setIfInBounds_toArray, List.set_cons_zero, List.set_cons_succ]
      refine takeL (i := 13) (v := ?_) rfl (by kernel_rfl) (by kernel_rfl) (by kernel_rfl) (fun _ _ _ h => h) (Or.inl ⟨by rfl, ?_⟩) trivial ?_
      rotate_left
      · intro wS hSw; have g1 : IntKind.i64.wrap ((k : Int) + 1) = (k : Int) + 1 := IntWalk.i64_in _ (by omega); go_simp; try with_reducible rfl
      try simp only [Act.put, List.setIfInBounds_toArray, List.set_cons_zero, List.set_cons_succ]
      refine takeL (i := 14) (v := ?_) rfl (by kernel_rfl) (by kernel_rfl) (by kernel_rfl) (fun _ _ _ h => h) (Or.inl ⟨by rfl, ?_⟩) trivial ?_
      rotate_left
      · intro wS hSw; have g1 : (0 : Int) ≤ (k : Int) := (by omega); have g2 : (k : Int) ≤ (k : Int) + 1 := (by omega); have g3 : (k : Int) + 1 ≤ (s.size : Int) := (by omega); have g5 : ((k : Int) + 1).toNat = k + 1 := (by omega); go_simp; try with_reducible rfl
      try simp only [Act.put, List.setIfInBounds_toArray, List.set_cons_zero, List.set_cons_succ]
      refine takeL (i := 15) (v := ?_) rfl (by kernel_rfl) (by kernel_rfl) (by kernel_rfl) (fun _ _ _ h => h) (Or.inl ⟨by rfl, ?_⟩) trivial ?_
      rotate_left
      · intro wS hSw; have g1 : ¬ 9223372036854775807 < min k s.size + (min (k + 2) s.size - (k + 1)) + (min (k + 1) s.size - k) := (by omega); go_simp; try with_reducible rfl
      try simp only [Act.put, List.setIfInBounds_toArray, List.set_cons_zero, List.set_cons_succ]
      refine takeL (i := 16) (v := ?_) rfl (by kernel_rfl) (by kernel_rfl) (by kernel_rfl) (fun _ _ _ h => h) (Or.inl ⟨by rfl, ?_⟩) trivial ?_
      rotate_left
      · intro wS hSw; go_simp; try with_reducible rfl
      try simp only [Act.put, List.setIfInBounds_toArray, List.set_cons_zero, List.set_cons_succ]
      refine takeL (i := 17) (v := ?_) rfl (by kernel_rfl) (by kernel_rfl) (by kernel_rfl) (fun _ _ _ h => h) (Or.inl ⟨by rfl, ?_⟩) trivial ?_
      rotate_left
      · intro wS hSw; go_simp; try with_reducible rfl
      try simp only [Act.put, List.setIfInBounds_toArray, List.set_cons_zero, List.set_cons_succ]
      refine takeL (i := 18) (v := ?_) rfl (by kernel_rfl) (by kernel_rfl) (by kernel_rfl) (fun _ _ _ h => h) (Or.inl ⟨by rfl, ?_⟩) trivial ?_
      rotate_left
      · intro wS hSw; have g1 : IntKind.i64.wrap ((k : Int) + 2) = (k : Int) + 2 := IntWalk.i64_in _ (by omega); go_simp; try with_reducible rfl
      try simp only [Act.put, List.setIfInBounds_toArray, List.set_cons_zero, List.set_cons_succ]
      refine takeL (i := 19) (v := ?_) rfl (by kernel_rfl) (by kernel_rfl) (by kernel_rfl) (fun _ _ _ h => h) (Or.inl ⟨by rfl, ?_⟩) trivial ?_
      rotate_left
      · intro wS hSw; have g1 : (0 : Int) ≤ (k : Int) + 2 := (by omega); have g2 : (k : Int) + 2 ≤ (s.size : Int) := (by omega); have g3 : (s.size : Int) ≤ (s.size : Int) := (by omega); have g4 : ((k : Int) + 2).toNat = k + 2 := (by omega); go_simp; try with_reducible rfl
      try simp only [Act.put, List.setIfInBounds_toArray, List.set_cons_zero, List.set_cons_succ]
      refine takeL (i := 20) (v := ?_) rfl (by kernel_rfl) (by kernel_rfl) (by kernel_rfl) (fun _ _ _ h => h) (Or.inl ⟨by rfl, ?_⟩) trivial ?_
      rotate_left
      · intro wS hSw; have g1 : ¬ 9223372036854775807 < min k s.size + (min (k + 2) s.size - (k + 1)) + (min (k + 1) s.size - k) + (s.size - (k + 2)) := (by omega); go_simp; try with_reducible rfl
      try simp only [Act.put, List.setIfInBounds_toArray, List.set_cons_zero, List.set_cons_succ]
      refine takeL (i := 21) (v := ?_) rfl (by kernel_rfl) (by kernel_rfl) (by kernel_rfl) (fun _ _ _ h => h) (Or.inl ⟨by rfl, ?_⟩) trivial ?_
      rotate_left
      · intro wS hSw; go_simp; try with_reducible rfl
      try simp only [Act.put, List.setIfInBounds_toArray, List.set_cons_zero, List.set_cons_succ]
      refine wpAnyH_done (by kernel_rfl) ?_ _
      go_wp2_with fail
      go_ret
      refine ⟨_, rfl, Lib.hid (Or.inr (Or.inr (Or.inl ⟨HY.out.symm, (L s).take k, (L s).drop (k + 2), (L s)[k], (L s)[k + 1], split_at2 _ _ hk', ?_⟩))), ?_, Lib.hid ((Below.refl _ _).drew)⟩
      · rw [L_app, L_app, L_app, L_to, L_from, show k + 2 = (k + 1) + 1 from rfl, L_mid, L_mid, one_at _ (k + 1) hk', one_at _ k (by omega)]; simp
      · simp only [ByteArray.size_append, ByteArray.size_extract]; omega
    · go_wp2_with fail
      go_ret
      refine ⟨_, rfl, Lib.hid (Or.inr (Or.inr (Or.inr (Or.inl ⟨HY.out.symm, (L s).drop k, ?_⟩)))), ?_, Lib.hid (Below.refl _ _)⟩
      · rw [L_to, List.take_append_drop]
      · rw [ByteArray.size_extract]; omega
    · have cv := convN (w.alloc (.cells #[.int .u8 c.toNat] 5)) w.heap.size [c] (bytes_new w [c] _ rfl _) 1 rfl
      go_wp2_with fail
      go_ret
      refine ⟨_, rfl, Lib.hid (Or.inr (Or.inr (Or.inr (Or.inr ⟨HY.out.symm, [c], ?_⟩)))), ?_, Lib.hid ((Below.refl _ _).alloc (Nat.le_refl _) _)⟩
      · rw [L_app]
      · rw [ByteArray.size_append]; exact Nat.le_refl _
end Go.Proofs.YtibgibjmpcajkaaGreatDoor
