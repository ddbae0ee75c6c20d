/- Closed calls of this program: the letters' classes are known; how an entry of the table is proved by a run. -/
import Derived.Test.YtnijkdknnmgoeaaGreatAie
import Derived.Test.YtnijkdknnmgoeaaGreatProg
import Derived.KernelRfl
namespace Go.Proofs.YtnijkdknnmgoeaaGreat
open AI

def strL (s : List UInt8) : AV := .sc (.string ⟨s.toArray⟩)
def lowN (n : Nat) : Bool := (match Nat.ble 97 n with | true => Nat.ble n 122 | false => false)
def uppN (n : Nat) : Bool := (match Nat.ble 65 n with | true => Nat.ble n 90 | false => false)
def digN (n : Nat) : Bool := (match Nat.ble 48 n with | true => Nat.ble n 57 | false => false)
def wordN (n : Nat) : Bool := (match lowN n with | true => true | false => (match uppN n with | true => true | false => (match digN n with | true => true | false => Nat.beq n 95)))
def whiteN (n : Nat) : Bool := (match Nat.beq n 32 with | true => true | false => (match Nat.beq n 9 with | true => true | false => (match Nat.beq n 10 with | true => true | false => Nat.beq n 13)))
def byteX (lo up di wo wh : Nat) (f n : Nat) (s : AS) : Option (CR × AS) :=
  match Nat.ble n 255 with
  | false => none
  | true => match Nat.beq f wo with
    | true => some (.ret (.sc (.bool (wordN n))), s)
    | false => match Nat.beq f lo with
      | true => some (.ret (.sc (.bool (lowN n))), s)
      | false => match Nat.beq f up with
        | true => some (.ret (.sc (.bool (uppN n))), s)
        | false => match Nat.beq f di with
          | true => some (.ret (.sc (.bool (digN n))), s)
          | false => match Nat.beq f wh with
            | true => some (.ret (.sc (.bool (whiteN n))), s)
            | false => none
def argX (lo up di wo wh : Nat) (f : Nat) (s : AS) : List AV → Option (CR × AS)
  | [.sc (.int .u8 (.ofNat n))] => byteX lo up di wo wh f n s
  | _ => none
namespace Hd
def G : Glob := fun _ => none
def H : Hook := fun _ _ => none
def X0 : ExtsF := fun _ _ _ => none
theorem mixed : Tryz.prog.follows .mixedOrders = true := by kernel_rfl
theorem plainG (g : Nat) (cs : List AV) (h : G g = some cs) : plainL cs = true := by cases h
theorem given0 : Given Tryz.prog G (XP X0) H := ⟨mixed, (fun _ _ _ _ _ h => by cases h), (fun _ _ _ _ _ h => by cases h)⟩
def byteE (f : Nat) (p : Nat → Bool) (n : Nat) : Ent := ⟨f, [.sc (.int .u8 (.ofNat n))], none, .sc (.bool (p n))⟩
noncomputable def byteAll (m f : Nat) (p : Nat → Bool) (k : Nat) : Bool := Nat.rec (motive := fun _ => Bool) true (fun n ih => Bool.rec (motive := fun _ => Bool) false ih (runIs (byteE f p n) (goR Tryz.prog G X0 H m (startOf (byteE f p n))))) k
theorem byte_run {m f : Nat} {p : Nat → Bool} {k : Nat} (h : byteAll m f p k = true) : ∀ n, n < k → runIs (byteE f p n) (goR Tryz.prog G X0 H m (startOf (byteE f p n))) = true := by
  induction k with
  | zero => intro n hn; omega
  | succ k ih =>
    intro n hn
    have hk : Bool.rec (motive := fun _ => Bool) false (byteAll m f p k) (runIs (byteE f p k) (goR Tryz.prog G X0 H m (startOf (byteE f p k)))) = true := h
    cases hr : runIs (byteE f p k) (goR Tryz.prog G X0 H m (startOf (byteE f p k))) with
    | false => rw [hr] at hk; cases hk
    | true =>
      rw [hr] at hk
      by_cases e : n = k
      · subst e; exact hr
      · exact ih hk n (by omega)
theorem byte_ok {m f : Nat} {p : Nat → Bool} (h : byteAll m f p 256 = true) (n : Nat) (hn : n < 256) (s : AS) : Sound Tryz.prog G (.call f [.sc (.int .u8 (.ofNat n))] s (.ret (.sc (.bool (p n)))) s) :=
  ent_ok (e := byteE f p n) given0 plainG rfl (byte_run h n hn) s
theorem low_ok : byteAll 1000 141 lowN 256 = true := by kernel_rfl
theorem upp_ok : byteAll 1000 148 uppN 256 = true := by kernel_rfl
theorem dig_ok : byteAll 1000 143 digN 256 = true := by kernel_rfl
theorem word_ok : byteAll 1000 202 wordN 256 = true := by kernel_rfl
theorem white_ok : byteAll 1000 174 whiteN 256 = true := by kernel_rfl
/-- the letters' classes, and a table -/
def X (l : List Ent) : ExtsF := fun f args s => match argX 141 148 143 202 174 f s args with
  | some r => some r
  | none => find f args s l
theorem arg_ok {f : Nat} {args : List AV} {s s' : AS} {r : CR} (h : argX 141 148 143 202 174 f s args = some (r, s')) : Sound Tryz.prog G (.call f args s r s') := by
  unfold argX at h
  split at h
  · rename_i n
    unfold byteX at h
    split at h
    · cases h
    · rename_i hn
      have hn' : n < 256 := Nat.lt_succ_of_le (Nat.le_of_ble_eq_true hn)
      split at h
      · rename_i hf; cases h; rw [beq_true hf]; exact byte_ok word_ok n hn' _
      · split at h
        · rename_i hf; cases h; rw [beq_true hf]; exact byte_ok low_ok n hn' _
        · split at h
          · rename_i hf; cases h; rw [beq_true hf]; exact byte_ok upp_ok n hn' _
          · split at h
            · rename_i hf; cases h; rw [beq_true hf]; exact byte_ok dig_ok n hn' _
            · split at h
              · rename_i hf; cases h; rw [beq_true hf]; exact byte_ok white_ok n hn' _
              · cases h
  · cases h
theorem given {l : List Ent} (hl : ∀ e ∈ l, EntOk Tryz.prog G e) : Given Tryz.prog G (XP (X l)) H := by
  refine ⟨mixed, fun f args s r s' h => ?_, fun _ _ _ _ _ h => by cases h⟩
  have h' : X l f args s = some (r, s') := h
  unfold X at h'
  split at h'
  · rename_i q hq; cases h'; exact arg_ok hq
  · exact find_ok hl h'
theorem none : ∀ e ∈ ([] : List Ent), EntOk Tryz.prog G e := fun e he => by cases he
theorem entry {e : Ent} {l : List Ent} {m : Nat} (hl : ∀ e ∈ l, EntOk Tryz.prog G e) (hp : entPlain e = true) (h : runIs e (goR Tryz.prog G (X l) H m (startOf e)) = true) : EntOk Tryz.prog G e := ent_ok (given hl) plainG hp h
end Hd
end Go.Proofs.YtnijkdknnmgoeaaGreat
