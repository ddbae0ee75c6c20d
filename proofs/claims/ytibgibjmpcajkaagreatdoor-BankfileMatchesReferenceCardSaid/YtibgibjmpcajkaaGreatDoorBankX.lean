/- The library's contracts in this proof's words; padded, account, Account, check, file. -/
import Derived.Test.YtibgibjmpcajkaaGreatDoorShelf
import Derived.Test.YtibgibjmpcajkaaGreatDoorBankW
import Derived.Lib.AtoiErrMem
namespace Go.Proofs.YtibgibjmpcajkaaGreatDoor
open Go.RowKit BankS

theorem Tabs.below {w w' : World} (h : Tabs w) (b : Below w.heap.size w w') : Tabs w' :=
  h.keep b.size (fun i hi => b.block i (Nat.lt_of_lt_of_le hi h.size))
theorem Tabs.drewN {w : World} (h : Tabs w) (n : Nat) : Tabs (w.drewN n) := h.keep (Nat.le_refl _) (fun _ _ => rfl)
theorem Tabs.drew {w : World} (h : Tabs w) : Tabs w.drew := h.keep (Nat.le_refl _) (fun _ _ => rfl)
theorem Tabs.alloc {w : World} (h : Tabs w) (o : Obj) : Tabs (w.alloc o) := h.below ((Below.refl _ _).alloc (Nat.le_refl _) o)
theorem Below.grew (w : World) (k : Nat) (os : Array Obj) : Below w.heap.size w (Go.Sort.grow (w.drewN k) os) :=
  ⟨rfl, rfl, rfl, by simp [Go.Sort.grow], fun i hi => by show (w.heap ++ os)[i]? = _; rw [Array.getElem?_append_left hi]⟩
theorem cell_row {w : World} {b i : Nat} {cs : Array Value} {t : TypeId} {fr : Nat × Nat} (h : w.heap[b]? = some (.cells cs t fr)) : w.cell? ⟨b, i, none⟩ = cs[i]? := cell_of_row w b i cs t fr h
theorem Tabs.tab {w : World} (h : Tabs w) : Lib.TabIs Tryz.prog w "internal/strconv.uint64pow10" .u64 Lib.pow10Tab := by
  obtain ⟨t, fr, e⟩ := h.pow
  have hg : Tryz.prog.globalNamed "internal/strconv.uint64pow10" = some 3 := by kernel_rfl
  unfold Lib.TabIs World.var?
  rw [hg]
  simp only [Option.bind_some, e]
  rfl
theorem Tabs.max {w : World} (h : Tabs w) : ∃ m : Int, w.cell? ⟨2, 0, none⟩ = some (.int .i64 m) := by
  obtain ⟨m, t, fr, e⟩ := h.maxl
  exact ⟨m, by rw [cell_row e]; rfl⟩
theorem Tabs.bef_at {w : World} (h : Tabs w) (i : Nat) (hi : i < 13) : w.cell? ⟨1, i, none⟩ = some (.int .i64 (before i)) := by
  obtain ⟨t, fr, e⟩ := h.bef
  rw [cell_row e]
  unfold befArr
  simp [hi]

abbrev str (l : Bs) : Value := .string ⟨l.toArray⟩
theorem L_app (a b : ByteArray) : L (a ++ b) = L a ++ L b := by simp [L]
theorem str_eq {s t : ByteArray} (h : L s = L t) : s = t := ByteArray.ext (Array.toList_inj.1 h)
theorem ret_mk {s : ByteArray} {l : Bs} (h : L s = l) : Ending.returned (.string s) = .returned (str l) := by
  subst h; rfl
/-- a string is handed back that reads as l; only new memory is written -/
def RetStr (l : Bs) (w : World) (e : Ending) (w' : World) : Prop := ∃ s : ByteArray, e = .returned (.string s) ∧ Hid (L s = l) ∧ Hid (Below w.heap.size w w')
theorem RetStr.mk {l : Bs} {w w' : World} {s : ByteArray} (h : L s = l) (b : Below w.heap.size w w') : RetStr l w (.returned (.string s)) w' := ⟨s, rfl, h, b⟩
theorem itoa_any (n : Int) (w : World) (hT : Tabs w) (h0 : 0 ≤ n) (h1 : n ≤ 9223372036854775807) :
    Calls Tryz.prog 29 #[.int .i64 n] w (RetStr (Lib.decDigits n.toNat) w) := by
  refine (Tryz.strconv_Itoa n (by omega) h1 w hT.tab).mono ?_
  rintro e w' ⟨rfl, k, os, rfl⟩
  refine RetStr.mk ?_ (Below.grew w k os)
  unfold Lib.itoa
  rw [if_neg (by omega)]
theorem repeat_zeros (l : Bs) (c : Nat) (hl : l = [48]) : Lib.repeatL l c = List.replicate c 48 := by
  subst hl
  induction c with
  | zero => rfl
  | succ c ih => rw [Lib.repeatL, ih, List.replicate_succ]; rfl
theorem repeat_any (c : Int) (w : World) (h0 : 0 ≤ c) (h1 : c ≤ 100) :
    Calls Tryz.prog 85 #[.string ⟨#[48]⟩, .int .i64 c] w (RetStr (List.replicate c.toNat 48) w) := by
  obtain ⟨k, rfl⟩ := Int.eq_ofNat_of_zero_le h0
  refine (Tryz.strings_Repeat ⟨#[48]⟩ k w (by omega) (by show 1 * k ≤ _; omega)).mono ?_
  rintro e w' ⟨rfl, b⟩
  exact RetStr.mk (by rw [repeat_zeros _ _ rfl, Int.toNat_natCast]) b
theorem dec_len (n : Nat) (h : n < 1000) : (Lib.decDigits n).length ≤ 3 := by
  have : (List.range 1000).all (fun n => decide ((Lib.decDigits n).length ≤ 3)) = true := by decide +kernel
  exact of_decide_eq_true (List.all_eq_true.1 this n (List.mem_range.2 h))

set_option maxHeartbeats 400000 in
theorem padded_any (n d : Int) (w : World) (hT : Tabs w) (h0 : 0 ≤ n) (h1 : n < 1000) (h2 : 0 ≤ d) (h3 : d ≤ 10) :
    Calls Tryz.prog 63 #[.int .i64 n, .int .i64 d] w (RetStr (pad n.toNat d.toNat) w) := by
  obtain ⟨k, rfl⟩ := Int.eq_ofNat_of_zero_le h0
  obtain ⟨q, rfl⟩ := Int.eq_ofNat_of_zero_le h2
  rw [Int.toNat_natCast, Int.toNat_natCast]
  have hl := dec_len k (by omega)
  go_enter Tryz.func63, Tryz.ntmps63
  go_wp2_with fail
  refine (itoa_any _ _ hT (by omega) (by omega)).mono ?_
  rintro e w1 ⟨ds, rfl, HD, B1⟩
  rw [Int.toNat_natCast] at HD
  have hs1 := B1.out.size
  have hl : ds.size ≤ 3 := by rw [← L_len, HD.out]; exact hl
  go_wp2_with fail
  refine (repeat_any _ _ (by omega) (by omega)).mono ?_
  rintro e w2 ⟨zs, rfl, HZ, b2⟩
  have B2 : Hid (Below w.heap.size w w2) := Lib.hid (B1.out.trans (b2.out.mono hs1))
  clear b2
  have hz : zs.size ≤ 10 := by rw [← L_len, HZ.out, List.length_replicate]; omega
  go_wp2_with fail
  go_ret
  refine RetStr.mk ?_ B2.out
  unfold pad
  rw [L_app, HD.out, HZ.out, ← L_len, HD.out, show (max ((q : Int) - ((Lib.decDigits k).length : Int)) 0).toNat = q - (Lib.decDigits k).length from by omega]
end Go.Proofs.YtibgibjmpcajkaaGreatDoor
