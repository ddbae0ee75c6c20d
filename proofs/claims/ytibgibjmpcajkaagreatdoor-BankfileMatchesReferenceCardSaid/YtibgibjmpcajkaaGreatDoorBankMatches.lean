/- The law BankfileMatchesReference returns true for every input, and leaves its arguments as they were; the variables read as the program's text lays them (the card ties them). -/
import Derived.Test.YtibgibjmpcajkaaGreatDoorBankFw
import Derived.Test.YtibgibjmpcajkaaGreatDoorBankMt
import Derived.Test.YtibgibjmpcajkaaGreatDoorBankMf
namespace Go.Proofs.YtibgibjmpcajkaaGreatDoor.bankfileMatchesReference
open Go.ChangeShapes Go.WideShapes Go.ChangeAt Go.RowKit BankS
open Go.ChangeMaps (open_string shut_string)

set_option maxHeartbeats 4000000 in
set_option maxRecDepth 100000 in
theorem contract (H : Type) (enc : TypeId × Value → H) (W : World) (base : Nat) (args : Array Value) (ds gs : List (DataW H)) (before : List MemPlace)
    (hval : ∀ (j : Nat) t v, Tryz.f3.params[j]? = some t → args[j]? = some v → Value.okWide Tryz.prog W .any base t v)
    (hW : DataW.Whole enc Tryz.prog Tryz.f3.params.toList Rows.bankfileMatchesReferenceSpec.vars false W args.toList ds gs before) (hL : laidMetH Tryz.prog Rows.bankfileMatchesReferenceRow.laid W) (hsh : W.ShapedOpen Tryz.prog) :
    Calls Tryz.prog 3 args W fun e W' => ∃ v, e = .returned v ∧ Rows.bankfileMatchesReferenceSpec.post enc Tryz.prog Tryz.f3 false true false false W args v W' := by
  have hW' := hW
  obtain ⟨p, q, hA0, hV, rfl, hfz, hnd⟩ := hW
  have hA : DataW.TrodAll enc Tryz.prog W 0 (fun _ => true) true Tryz.f3.params.toList args.toList ds p := hA0
  rw [Tryz.params3] at hA hval
  obtain ⟨v0, vs0, d0, ds0, p0, q0, hargs, rfl, rfl, h0, r0⟩ := trodAll_cons hA
  obtain ⟨v1, vs1, d1, ds1, p1, q1, rfl, rfl, rfl, h1, r1⟩ := trodAll_cons r0
  obtain ⟨v2, vs2, d2, ds2, p2, q2, rfl, rfl, rfl, h2, r2⟩ := trodAll_cons r1
  obtain ⟨v3, vs3, d3, ds3, p3, q3, rfl, rfl, rfl, h3, r3⟩ := trodAll_cons r2
  obtain ⟨rfl, rfl, rfl⟩ := trodAll_nil r3
  obtain rfl : args = #[v0, v1, v2, v3] := Array.ext' hargs
  obtain ⟨rfl, rfl⟩ := trodVars_none hV
  have c0 : Value.okWide Tryz.prog W .any base 22 v0 := hval 0 22 v0 (by kernel_rfl) (by simp)
  have o0 := okWide_slice Tryz.underlying22 c0
  have k0 := h0
  have lt0 : ∀ x ∈ p0, x.block < W.heap.size := by obtain ⟨m, hm⟩ := k0; exact DataW.trod_lt m _ _ _ hm
  obtain ⟨l0, R0, K0, N0⟩ : ∃ l : List Pay, Rd payC 4 W v0 l ∧ (∀ x ∈ l, True) ∧ l.length ≤ 9223372036854775807 := by
    obtain ⟨fuel, hf⟩ := h0
    exact open_pays hf o0
  have c1 : Value.okWide Tryz.prog W .any base 23 v1 := hval 1 23 v1 (by kernel_rfl) (by simp)
  have o1 := okWide_slice Tryz.underlying23 c1
  have k1 := h1
  have lt1 : ∀ x ∈ p1, x.block < W.heap.size := by obtain ⟨m, hm⟩ := k1; exact DataW.trod_lt m _ _ _ hm
  obtain ⟨l1, R1, K1, N1⟩ : ∃ l : List Ans, Rd ansC 5 W v1 l ∧ (∀ x ∈ l, True) ∧ l.length ≤ 9223372036854775807 := by
    obtain ⟨fuel, hf⟩ := h1
    exact open_anss hf o1
  obtain ⟨a2, rfl, rfl, rfl, w2⟩ := open_string Tryz.underlying9 (hval 2 9 v2 rfl rfl) h2
  have c3 : Value.okWide Tryz.prog W .any base 24 v3 := hval 3 24 v3 (by kernel_rfl) (by simp)
  have o3 := okWide_slice Tryz.underlying24 c3
  have k3 := h3
  have lt3 : ∀ x ∈ p3, x.block < W.heap.size := by obtain ⟨m, hm⟩ := k3; exact DataW.trod_lt m _ _ _ hm
  obtain ⟨l3, R3, K3, N3⟩ : ∃ l : List Tri, Rd triC 3 W v3 l ∧ (∀ x ∈ l, triOk x) ∧ l.length ≤ 9223372036854775807 := by
    obtain ⟨fuel, hf⟩ := h3
    exact open_tris hf o3
  clear hA0
  refine (matches_walk v0 v1 a2 v3 l0 l1 l3 W (tabs_of_laid hL hsh) R0 R1 w2 R3 K0 K1 K3 N0 N1 N3).mono fun e W' ⟨he, bel0⟩ => ?_
  have bel := bel0.out
  subst he
  exact ⟨_, rfl, _, _, _, [], _, [], hW', trodAll_mk1 (shut_bool Tryz.underlying4 _), (trodAll_cons_mk (Below.trod laidOut (by kernel_rfl) (of_decide_eq_true (by kernel_rfl)) k0 bel lt0) (trodAll_cons_mk (Below.trod laidOut (by kernel_rfl) (of_decide_eq_true (by kernel_rfl)) k1 bel lt1) (trodAll_cons_mk (shut_string Tryz.underlying9 w2) (trodAll_cons_mk (Below.trod laidOut (by kernel_rfl) (of_decide_eq_true (by kernel_rfl)) k3 bel lt3) trodAll_mk0)))), rfl, bel.frame _, fun h => by cases h⟩

theorem reads (os : Os) {H : Type} (enc : TypeId × Value → H) : ∃ places, DataW.whole enc Tryz.prog ((laidWorld os).forCall (fun _ _ => 0) ⟨#[], #[.slice none 0 0, .slice none 0 0, .string ByteArray.empty, .slice none 0 0], []⟩).memory Tryz.f3.params.toList Rows.bankfileMatchesReferenceSpec.vars false (#[.slice none 0 0, .slice none 0 0, .string ByteArray.empty, .slice none 0 0] : Array Value).toList 8 = some ([.nil, .nil, .lit (.string []), .nil], [], places) :=
  ⟨[], by kernel_rfl⟩

set_option maxRecDepth 100000 in
theorem lifted (os : Os) (started : os.Started) (H : Type) (enc : TypeId × Value → H) (F : Stop.Interp) :
    ReturnsInHanded {} Tryz.checked os 3 .any ((OpenSpec.ofChange Rows.bankfileMatchesReferenceSpec).preRow enc Tryz.prog Tryz.f3 Rows.bankfileMatchesReferenceRow.domain false Rows.bankfileMatchesReferenceRow.laid) (((OpenSpec.ofChange Rows.bankfileMatchesReferenceSpec).at F).post enc Tryz.prog Tryz.f3 false true false false) := by
  obtain ⟨places, hx⟩ := reads os enc
  refine returnsInHanded_of_row (C := Tryz.checked) (s := OpenSpec.ofChange Rows.bankfileMatchesReferenceSpec) own started (by kernel_rfl) Tryz.func3
    (witness_row_at (enc := enc) (C := Tryz.checked) false (laidWorld os) #[.slice none 0 0, .slice none 0 0, .string ByteArray.empty, .slice none 0 0] rfl (by kernel_rfl) (by kernel_rfl) (by kernel_rfl)
      (OpenSpec.preRow_of_cond 8 hx (by kernel_rfl) (fun k hk => by cases hk) (by kernel_rfl) (laid_met os _))) ?_
  intro W base args ds gs before hval hW _ _ _ hL hsh _
  exact contract H enc W base args ds gs before hval hW hL hsh

theorem said : Rows.BankfileMatchesReferenceSaid :=
  OpenClaim.holds_of_cond 3 Tryz.f3 rfl rfl rfl rfl rfl rfl rfl ⟨rfl, rfl, rfl, rfl, rfl⟩ rfl rfl rfl rfl rfl (by kernel_rfl) Tryz.func3 (by kernel_rfl)
    (of_decide_eq_true (by kernel_rfl)) (by unfold Func.isWrapper; first | (rw [if_pos (by decide +kernel)]; kernel_rfl) | (rw [if_neg (by decide +kernel)]; exact ⟨rfl, rfl⟩))
    (fun os started H enc _ F => by rw [OpenClaim.pre_eq_preRow]; exact lifted os started H enc F)

theorem plain (f : FuncId) (fn : Func) (hf : Tryz.pinned.checked.prog.funcNamed "wageoffice/wageofficelaw38.BankfileMatchesReference" = some f) (hfn : Tryz.pinned.checked.prog.funcs[f]? = some fn) :
    true = Tryz.pinned.checked.prog.looks [] ∧ ∀ (j : Nat) t, fn.params[j]? = some t → Tryz.pinned.checked.prog.wantsStandIn t = false := by
  obtain rfl : f = 3 := Option.some.inj ((show Tryz.prog.funcNamed "wageoffice/wageofficelaw38.BankfileMatchesReference" = some 3 by kernel_rfl).symm.trans hf) |>.symm
  obtain rfl : fn = Tryz.f3 := (Option.some.inj (Tryz.func3.symm.trans hfn)).symm
  refine ⟨by kernel_rfl, fun j t ht => ?_⟩
  rw [Tryz.params3] at ht
  have ht' := Array.mem_of_getElem? ht
  simp only [List.mem_toArray, List.mem_cons, List.not_mem_nil, or_false] at ht'
  rcases ht' with rfl | rfl | rfl | rfl
  · exact (show Tryz.prog.wantsStandIn 22 = false by kernel_rfl)
  · exact (show Tryz.prog.wantsStandIn 23 = false by kernel_rfl)
  · exact (show Tryz.prog.wantsStandIn 9 = false by kernel_rfl)
  · exact (show Tryz.prog.wantsStandIn 24 = false by kernel_rfl)

theorem card : Rows.BankfileMatchesReferenceCardSaid :=
  Claim7.holds_tied_plain_at .later [] _ _ _ _ said (fun _ h => by cases h) (by kernel_rfl) (fun _ h => by cases h) bankfileMatchesReference_row_tie rfl ⟨rfl, rfl⟩ (by kernel_rfl) rfl plain (by kernel_rfl)
end Go.Proofs.YtibgibjmpcajkaaGreatDoor.bankfileMatchesReference

namespace Go.Proofs.YtibgibjmpcajkaaGreatDoor
theorem bankfileMatchesReference_holds : Rows.BankfileMatchesReferenceCardSaid := bankfileMatchesReference.card
#print axioms bankfileMatchesReference_holds
end Go.Proofs.YtibgibjmpcajkaaGreatDoor
