/- Part of a proof: see the last text. -/
import Derived.Test.YtnijkdknnmgoeaaGreatOdn
namespace Go.Proofs.YtnijkdknnmgoeaaGreat
open AI Go
namespace Mo
set_option maxRecDepth 100000
set_option maxHeartbeats 4000000
noncomputable def sel {α : Type} (p : Nat → α → Prop) : List α → Nat → List Int
 | [], _ => []
 | y :: l, i => open Classical in if p i y then ((i : Nat) : Int) :: sel p l (i + 1) else sel p l (i + 1)
theorem sel_app {α : Type} (p : Nat → α → Prop) : ∀ (l m : List α) (i : Nat), sel p (l ++ m) i = sel p l i ++ sel p m (i + l.length)
 | [], m, i => rfl
 | y :: l, m, i => by
   rw [List.cons_append, sel, sel, sel_app p l m (i + 1), show i + 1 + l.length = i + (y :: l).length by simp only [List.length_cons]; omega]
   by_cases h : p i y
   · rw [if_pos h, if_pos h]; rfl
   · rw [if_neg h, if_neg h]
theorem sel_step {α : Type} {p : Nat → α → Prop} {l : List α} {i : Nat} {y : α} (h : l[i]? = some y) : (p i y → sel p (l.take (i + 1)) 0 = sel p (l.take i) 0 ++ [((i : Nat) : Int)]) ∧ (¬ p i y → sel p (l.take (i + 1)) 0 = sel p (l.take i) 0) := by
 have hi := (List.getElem?_eq_some_iff.1 h).1
 have h1 : (l.take i).length = i := by rw [List.length_take]; omega
 rw [List.take_add_one, h, sel_app, h1, Nat.zero_add]
 simp only [Option.toList_some, sel]
 exact ⟨fun hp => by rw [if_pos hp], fun hp => by rw [if_neg hp, List.append_nil]⟩
theorem sel_len {α : Type} (p : Nat → α → Prop) : ∀ (l : List α) (i : Nat), (sel p l i).length ≤ l.length
 | [], _ => Nat.le_refl _
 | y :: l, i => by
   have := sel_len p l (i + 1)
   rw [sel]
   by_cases h : p i y
   · rw [if_pos h]; simp only [List.length_cons]; omega
   · rw [if_neg h]; simp only [List.length_cons]; omega
def names (a : Ar) (z : Int) : Prop := (z ∈ a.un ∨ ∃ e ∈ a.wh, men z e) ∨ men z a.am
def needP (c : Co) (v : Int) (a : Ar) (i : Nat) (b : Ar) : Prop := names a b.number ∨ beats c ((i : Nat) : Int) v
theorem needs_s (c : Co) (hc : okC c) (hn : c.arts.length ≤ 1000000) (v : Int) (a : Ar) (hv : geti c.arts v = some a) : codex_needs_B c v = some (sel (needP c v a) c.arts 0) := by
 obtain ⟨hf, hl, ha, hao⟩ := hc
 obtain ⟨hw, hu, hwe, hae⟩ := hao a (List.mem_of_getElem? (geti_lt hv).2)
 rw [codex_needs_B, hv, Option.bind_some, Sp_eq]
 refine Sp_loop (fun i m => ∀ z, has m z ↔ ∃ (j : Nat) (y : Int), j < i ∧ a.un[j]? = some y ∧ z = y) hu (fun z => by simp [has, Mm.get_nil]) (fun i y m hy hI => ?_) (fun m hI => ?_)
 · simp only [codex_needs_L1, Sp_some, RQ_nx]
   intro z
   rw [has_set, hI z]
   constructor
   · rintro (⟨j, k, hj, hk, h⟩ | h)
     · exact ⟨j, k, by omega, hk, h⟩
     · exact ⟨i, y, by omega, hy, h⟩
   · rintro ⟨j, k, hj, hk, h⟩
     rcases Nat.lt_or_ge j i with h9 | h9
     · exact .inl ⟨j, k, h9, hk, h⟩
     · have : j = i := by omega
       subst this; rw [hy] at hk; cases hk; exact .inr h
 have hm : ∀ z, has m z ↔ z ∈ a.un := fun z => by
   rw [hI z]
   constructor
   · rintro ⟨j, y, _, h1, rfl⟩; exact List.mem_of_getElem? h1
   · intro h
     obtain ⟨i, hi⟩ := List.getElem?_of_mem h
     exact ⟨i, z, (List.getElem?_eq_some_iff.1 hi).1, hi, rfl⟩
 clear hI
 refine Sp_loop (fun i x => ∀ z, has x z ↔ z ∈ a.un ∨ ∃ (j : Nat) (e : Ex), j < i ∧ a.wh[j]? = some e ∧ men z e) hw (fun z => by rw [hm z]; simp) (fun i y x hy hI => ?_) (fun x hI => ?_)
 · simp only [codex_needs_L2, Sp_bind]
   refine (ment_s y x (hwe y (List.mem_of_getElem? hy))).mono fun r hr => ?_
   obtain ⟨r1, r2⟩ := r
   simp only [Sp_some, RQ_nx] at hr ⊢
   intro z
   rw [hr z, hI z]
   constructor
   · rintro ((h | ⟨j, k, hj, hk, h⟩) | h)
     · exact .inl h
     · exact .inr ⟨j, k, by omega, hk, h⟩
     · exact .inr ⟨i, y, by omega, hy, h⟩
   · rintro (h | ⟨j, k, hj, hk, h⟩)
     · exact .inl (.inl h)
     · rcases Nat.lt_or_ge j i with h9 | h9
       · exact .inl (.inr ⟨j, k, h9, hk, h⟩)
       · have : j = i := by omega
         subst this; rw [hy] at hk; cases hk; exact .inr h
 have hx : ∀ z, has x z ↔ z ∈ a.un ∨ ∃ e ∈ a.wh, men z e := fun z => by
   rw [hI z]
   constructor
   · rintro (h | ⟨j, k, _, hk, h⟩)
     · exact .inl h
     · exact .inr ⟨k, List.mem_of_getElem? hk, h⟩
   · rintro (h | ⟨k, hk, h⟩)
     · exact .inl h
     · obtain ⟨i, hi⟩ := List.getElem?_of_mem hk
       exact .inr ⟨i, k, (List.getElem?_eq_some_iff.1 hi).1, hi, h⟩
 rw [Sp_bind]
 refine (ment_s a.am x hae).mono fun r hr => ?_
 obtain ⟨r1, M⟩ := r
 simp only at hr ⊢
 have hM : ∀ z, has M z ↔ names a z := fun z => by rw [hr z, hx z]; rfl
 refine Sp_loop (fun i x => x = sel (needP c v a) (c.arts.take i) 0) ha (by simp [sel]) (fun i b x hb hI => ?_) (fun x hI => ?_)
 · have hlen := sel_len (needP c v a) (c.arts.take i) 0
   have h1 : (c.arts.take i).length ≤ i := by rw [List.length_take]; omega
   have hi := (List.getElem?_eq_some_iff.1 hb).1
   obtain ⟨s1, s2⟩ := sel_step (p := needP c v a) hb
   simp only [codex_needs_L3, beats_s c ⟨hf, hl, ha, hao⟩, Option.bind_some, c_b, mb_is_true, Sp_iff]
   rw [limA_of (by rw [hI]; omega)]
   have hM' := hM b.number
   unfold has at hM'
   rw [hM']
   simp only [Sp_some, RQ_nx, hI]
   exact ⟨fun h => (s1 (.inl h)).symm, fun h => ⟨fun h2 => (s1 (.inr h2)).symm, fun h2 => (s2 (fun h3 => h3.elim h h2)).symm⟩⟩
 · rw [Sp_some, hI, List.take_length]
def fewP (c : Co) : Prop := c.facts.length ≤ 40 ∧ c.lines.length ≤ 40 ∧ c.arts.length ≤ 70 ∧ ∀ a ∈ c.arts, a.wh.length ≤ 40 ∧ a.un.length ≤ 80 ∧ cnt a.am ≤ 420 ∧ ∀ e ∈ a.wh, cnt e ≤ 420
theorem few_s (c : Co) (hc : okC c) : law10_small_B c = some (mb (fewP c)) := by
 obtain ⟨hf, hl, ha, hao⟩ := hc
 rw [law10_small_B, ref10_Few_B]
 simp only [ltI_mb, c_mb]
 rw [k_loop (v := false) (P := fun _ a => a.wh.length ≤ 40 ∧ a.un.length ≤ 80 ∧ cnt a.am ≤ 420 ∧ ∀ e ∈ a.wh, cnt e ≤ 420) ha (fun i a hi => by
   obtain ⟨hw, hu, hwe, hae⟩ := hao a (List.mem_of_getElem? hi)
   have e1 := fun (k : Unit → Option (Lp Unit Unit Bool)) => k_loop (l := a.wh) (body := fun i y x => ref10_Few_L2 420 i y) (v := false) (P := fun _ e => cnt e ≤ 420) (k := k) (kr := fun v => some (.rt v)) hw (fun i e hi => by
     simp only [ref10_Few_L2, small_s e 420 (hwe e (List.mem_of_getElem? hi)) (by omega), Option.bind_some, c_mb, k_nr]
     congr 2; apply propext; omega)
   simp only [ref10_Few_L1, small_s a.am 420 hae (by omega), Option.bind_some, ltI_mb, c_mb, e1, mem_at, k_nr, k_qr, k_rq]
   congr 2; apply propext; grind)]
 simp only [mem_at, m_tf, m_fq, Option.bind_some]
 refine smb ?_
 unfold fewP
 grind
end Mo
end Go.Proofs.YtnijkdknnmgoeaaGreat
namespace Go.Proofs.YtnijkdknnmgoeaaGreat
open AI Go
namespace Mo
set_option maxRecDepth 100000
set_option maxHeartbeats 4000000
noncomputable def ndl (c : Co) (i : Nat) : List Int := match c.arts[i]? with
 | some a => sel (needP c ((i : Nat) : Int) a) c.arts 0
 | none => []
theorem sel_mem {α : Type} {p : Nat → α → Prop} {z : Int} : ∀ {l : List α} {i : Nat}, z ∈ sel p l i → ∃ (k : Nat) (y : α), z = ((i + k : Nat) : Int) ∧ l[k]? = some y ∧ p (i + k) y
 | [], _, h => by cases h
 | y :: l, i, h => by
   rw [sel] at h
   have tl : z ∈ sel p l (i + 1) → ∃ (k : Nat) (x : α), z = ((i + k : Nat) : Int) ∧ (y :: l)[k]? = some x ∧ p (i + k) x := fun h => by
     obtain ⟨k, x, h1, h2, h3⟩ := sel_mem h
     exact ⟨k + 1, x, by rw [h1]; congr 1; omega, by simpa using h2, by rw [show i + (k + 1) = i + 1 + k by omega]; exact h3⟩
   by_cases hp : p i y
   · rw [if_pos hp] at h
     rcases List.mem_cons.1 h with rfl | h
     · exact ⟨0, y, rfl, rfl, hp⟩
     · exact tl h
   · rw [if_neg hp] at h; exact tl h
theorem Nd_in {c : Co} {i : Nat} {z : Int} (h : z ∈ ndl c i) : 0 ≤ z ∧ z < ((c.arts.length : Nat) : Int) := by
 unfold ndl at h
 split at h
 · obtain ⟨k, y, h1, h2, _⟩ := sel_mem h
   have := (List.getElem?_eq_some_iff.1 h2).1
   omega
 · cases h
theorem Nd_len (c : Co) (i : Nat) : (ndl c i).length ≤ c.arts.length := by
 unfold ndl
 split
 · exact sel_len _ _ _
 · exact Nat.zero_le _
theorem needs_n (c : Co) (hc : okC c) (hn : c.arts.length ≤ 1000000) (i : Nat) (hi : i < c.arts.length) : codex_needs_B c ((i : Nat) : Int) = some (ndl c i) := by
 have h1 : c.arts[i]? = some c.arts[i] := List.getElem?_eq_getElem hi
 rw [needs_s c hc hn _ c.arts[i] (by rw [geti_nat, h1])]
 unfold ndl
 rw [h1]
theorem Needs_n (c : Co) (hc : okC c) (hv : validP c) (i : Nat) (hi : i < c.arts.length) : codex_Needs_B c ((i : Nat) : Int) = some (ndl c i) := by
 have hn : c.arts.length ≤ 1000000 := Nat.le_trans hv.2.2.1 (by decide)
 rw [codex_Needs_B, validC_s c hc]
 simp only [ltI_mb, leI_mb, c_mb, Option.bind_some]
 rw [iff_F (by omega), iff_F (by omega), iff_T hv, needs_n c hc hn i hi]
 rfl
def rdy (c : Co) (S : List Int) (i : Nat) : Prop := ((i : Nat) : Int) ∉ S ∧ ∀ z ∈ ndl c i, z ∈ S
def first (c : Co) (S : List Int) (i : Nat) : Prop := i < c.arts.length ∧ rdy c S i ∧ ∀ j, j < i → ¬ rdy c S j
def greedy (c : Co) (l : List Int) : Prop := ∀ (j : Nat) v, l[j]? = some v → ∃ i : Nat, v = ((i : Nat) : Int) ∧ first c (l.take j) i
def stuck (c : Co) (S : List Int) : Prop := ∀ i, i < c.arts.length → ¬ rdy c S i
theorem greedy_snoc {c : Co} {l : List Int} {i : Nat} (h : greedy c l) (hi : first c l i) : greedy c (l ++ [((i : Nat) : Int)]) := by
 intro j v hj
 rcases Nat.lt_or_ge j l.length with h1 | h1
 · rw [List.getElem?_append_left h1] at hj
   rw [List.take_append_of_le_length (Nat.le_of_lt h1)]
   exact h j v hj
 · rw [List.getElem?_append_right h1] at hj
   have h2 : j - l.length = 0 := by
     have := (List.getElem?_eq_some_iff.1 hj).1
     simp at this; omega
   rw [h2] at hj
   simp at hj
   have : j = l.length := by omega
   subst this
   rw [List.take_left']
   · exact ⟨i, hj.symm, hi⟩
   · rfl
def OrdP (c : Co) (r : List Int × Bool) : Prop := (r.2 = true ∧ r.1.length = c.arts.length ∧ greedy c r.1) ∨ (r.2 = false ∧ r.1 = [] ∧ ∃ S : List Int, S.length < c.arts.length ∧ stuck c S)
theorem order_s (c : Co) (hc : okC c) (hv : validP c) : Sp (codex_Order_B c) (OrdP c) := by
 have hn : c.arts.length ≤ 60 := hv.2.2.1
 rw [codex_Order_B, validC_s c hc, Option.bind_some, c_mb, iff_T hv]
 unfold limM
 rw [if_pos (by omega)]
 refine Sp_loop (fun i w => w.length = c.arts.length ∧ ∀ j, j < i → w[j]? = some (ndl c j)) (by omega) ⟨by simp, fun j hj => by omega⟩ (fun i a w hi hI => ?_) (fun w hI => ?_)
 · have hlt := (List.getElem?_eq_some_iff.1 hi).1
   obtain ⟨x, hx⟩ : ∃ x, w[i]? = some x := ⟨_, List.getElem?_eq_getElem (by rw [hI.1]; exact hlt)⟩
   simp only [codex_Order_L1, needs_n c hc (by omega) i hlt, hx, Option.bind_some, Sp_some, RQ_nx]
   refine ⟨by rw [List.length_set]; exact hI.1, fun j hj => ?_⟩
   rw [List.getElem?_set]
   by_cases h : i = j
   · subst h
     rw [if_pos rfl, if_pos (by rw [hI.1]; exact hlt)]
   · rw [if_neg h]; exact hI.2 j (by omega)
 · obtain ⟨hw, hwd⟩ := hI
   refine Sp_fix (fun x => x.1.length ≤ c.arts.length ∧ greedy c x.1 ∧ ∀ z, has x.2 z ↔ z ∈ x.1) (fun x => c.arts.length - x.1.length) ⟨Nat.zero_le _, fun j v h => by simp at h, fun z => by simp [has, Mm.get_nil]⟩ (fun x hI => ?_)
   obtain ⟨ord, m⟩ := x
   obtain ⟨h1, h2, h3⟩ := hI
   simp only at h1 h2 h3
   simp only [codex_Order_L2, ltI_mb, c_mb, Sp_iff, Sp_some, RQ_ex]
   refine ⟨fun hlt => ?_, fun hge => .inl ⟨rfl, by simp only; omega, h2⟩⟩
   refine Sp_loop (fun i x => x = -1 ∧ ∀ j, j < i → ¬ rdy c ord j) (by omega) ⟨rfl, fun j hj => by omega⟩ (fun i a x hi hI => ?_) (fun x hI => ?_)
   · have hil := (List.getElem?_eq_some_iff.1 hi).1
     have hrd : codex_Order_1_B ((i : Nat) : Int) c.arts.length w m = some (mb (∀ z ∈ ndl c i, z ∈ ord)) := by
       have hix : idxN c.arts.length ((i : Nat) : Int) = some i := by unfold idxN; rw [if_pos (by omega)]; rfl
       have := Nd_len c i
       rw [codex_Order_1_B, hix, Option.bind_some, hwd i (by omega), Option.bind_some, k_loop (v := false) (P := fun _ z => z ∈ ord) (by omega) (fun j z _ => by
         have := h3 z
         unfold has at this
         simp only [codex_Order_1_L1, c_b, this, k_nr]), m_tf, mem_at]
     have h3i := h3 ((i : Nat) : Int)
     unfold has at h3i
     simp only [codex_Order_L3, hrd, Option.bind_some, c_b, h3i, mb_is_true, Sp_iff, Sp_some, RQ_nx, RQ_ex]
     have snoc : ∀ y, ¬ rdy c ord i → y = -1 → y = -1 ∧ ∀ j, j < i + 1 → ¬ rdy c ord j := fun y hno hy => ⟨hy, fun j hj => by
       rcases Nat.lt_or_ge j i with h | h
       · exact hI.2 j h
       · have : j = i := by omega
         subst this; exact hno⟩
     refine ⟨fun hp => snoc x (fun h => h.1 hp) hI.1, fun hp => ⟨fun hr => ?_, fun hr => snoc x (fun h => hr h.2) hI.1⟩⟩
     have hf : first c ord i := ⟨hil, ⟨hp, hr⟩, hI.2⟩
     refine ⟨fun h => by omega, fun _ => ?_⟩
     rw [limA_of (by omega), Sp_some, RQ_nx]
     refine ⟨⟨by simp only [List.length_append, List.length_cons, List.length_nil]; omega, greedy_snoc h2 hf, fun z => ?_⟩, by simp only [List.length_append, List.length_cons, List.length_nil]; omega⟩
     rw [has_set, h3 z]; simp
   · simp only [Sp_iff, Sp_some, RQ_rt]
     exact ⟨fun h => .inr ⟨rfl, rfl, ord, by omega, fun i hi => hI.2 i hi⟩, fun h => by have := hI.1; omega⟩
end Mo
end Go.Proofs.YtnijkdknnmgoeaaGreat
namespace Go.Proofs.YtnijkdknnmgoeaaGreat
open AI
def strL (s : List UInt8) : AV := .sc (.string ⟨s.toArray⟩)
def lowN (n : Nat) : Bool := (match Nat.ble 97 n with | true => Nat.ble n 122 | false => false)
def uppN (n : Nat) : Bool := (match Nat.ble 65 n with | true => Nat.ble n 90 | false => false)
def digN (n : Nat) : Bool := (match Nat.ble 48 n with | true => Nat.ble n 57 | false => false)
def wordN (n : Nat) : Bool := (match lowN n with | true => true | false => (match uppN n with | true => true | false => (match digN n with | true => true | false => Nat.beq n 95)))
def whiteN (n : Nat) : Bool := (match Nat.beq n 32 with | true => true | false => (match Nat.beq n 9 with | true => true | false => (match Nat.beq n 10 with | true => true | false => Nat.beq n 13)))
def byteX (lo up di wo wh : Nat) (f n : Nat) (s : AS) : Option (CR × AS) :=
 match Nat.ble n 255 with
 | false => none
 | true => match Nat.beq f wo with
   | true => some (.ret (.sc (.bool (wordN n))), s)
   | false => match Nat.beq f lo with
     | true => some (.ret (.sc (.bool (lowN n))), s)
     | false => match Nat.beq f up with
       | true => some (.ret (.sc (.bool (uppN n))), s)
       | false => match Nat.beq f di with
         | true => some (.ret (.sc (.bool (digN n))), s)
         | false => match Nat.beq f wh with
           | true => some (.ret (.sc (.bool (whiteN n))), s)
           | false => none
def argX (lo up di wo wh : Nat) (f : Nat) (s : AS) : List AV → Option (CR × AS)
 | [.sc (.int .u8 (.ofNat n))] => byteX lo up di wo wh f n s
 | _ => none
namespace Hd
def H : Hook := fun _ _ => none
def X0 : ExtsF := fun _ _ _ => none
theorem given0 : Given Tryz.prog G (XP X0) H := ⟨mixed, (fun _ _ _ _ _ h => by cases h), (fun _ _ _ _ _ h => by cases h)⟩
def byteE (f : Nat) (p : Nat → Bool) (n : Nat) : Ent := ⟨f, [.sc (.int .u8 (.ofNat n))], none, .sc (.bool (p n))⟩
noncomputable def byteAll (m f : Nat) (p : Nat → Bool) (k : Nat) : Bool := Nat.rec (motive := fun _ => Bool) true (fun n ih => Bool.rec (motive := fun _ => Bool) false ih (runIs (byteE f p n) (goR Tryz.prog G X0 H m (startOf (byteE f p n))))) k
theorem byte_run {m f : Nat} {p : Nat → Bool} {k : Nat} (h : byteAll m f p k = true) : ∀ n, n < k → runIs (byteE f p n) (goR Tryz.prog G X0 H m (startOf (byteE f p n))) = true := by
 induction k with
 | zero => intro n hn; omega
 | succ k ih =>
   intro n hn
   have hk : Bool.rec (motive := fun _ => Bool) false (byteAll m f p k) (runIs (byteE f p k) (goR Tryz.prog G X0 H m (startOf (byteE f p k)))) = true := h
   cases hr : runIs (byteE f p k) (goR Tryz.prog G X0 H m (startOf (byteE f p k))) with
   | false => rw [hr] at hk; cases hk
   | true =>
     rw [hr] at hk
     by_cases e : n = k
     · subst e; exact hr
     · exact ih hk n (by omega)
theorem byte_ok {m f : Nat} {p : Nat → Bool} (h : byteAll m f p 256 = true) (n : Nat) (hn : n < 256) (s : AS) : Sound Tryz.prog G (.call f [.sc (.int .u8 (.ofNat n))] s (.ret (.sc (.bool (p n)))) s) :=
 ent_ok (e := byteE f p n) given0 plainG rfl (byte_run h n hn) s
theorem low_ok : byteAll 1000 141 lowN 256 = true := by kernel_rfl
theorem upp_ok : byteAll 1000 148 uppN 256 = true := by kernel_rfl
theorem dig_ok : byteAll 1000 143 digN 256 = true := by kernel_rfl
theorem word_ok : byteAll 1000 202 wordN 256 = true := by kernel_rfl
theorem white_ok : byteAll 1000 174 whiteN 256 = true := by kernel_rfl
def X (l : List Ent) : ExtsF := fun f args s => match argX 141 148 143 202 174 f s args with
 | some r => some r
 | none => find f args s l
theorem arg_ok {f : Nat} {args : List AV} {s s' : AS} {r : CR} (h : argX 141 148 143 202 174 f s args = some (r, s')) : Sound Tryz.prog G (.call f args s r s') := by
 unfold argX at h
 split at h
 · rename_i n
   unfold byteX at h
   split at h
   · cases h
   · rename_i hn
     have hn' : n < 256 := Nat.lt_succ_of_le (Nat.le_of_ble_eq_true hn)
     split at h
     · rename_i hf; cases h; rw [beq_true hf]; exact byte_ok word_ok n hn' _
     · split at h
       · rename_i hf; cases h; rw [beq_true hf]; exact byte_ok low_ok n hn' _
       · split at h
         · rename_i hf; cases h; rw [beq_true hf]; exact byte_ok upp_ok n hn' _
         · split at h
           · rename_i hf; cases h; rw [beq_true hf]; exact byte_ok dig_ok n hn' _
           · split at h
             · rename_i hf; cases h; rw [beq_true hf]; exact byte_ok white_ok n hn' _
             · cases h
 · cases h
theorem given {l : List Ent} (hl : ∀ e ∈ l, EntOk Tryz.prog G e) : Given Tryz.prog G (XP (X l)) H := by
 refine ⟨mixed, fun f args s r s' h => ?_, fun _ _ _ _ _ h => by cases h⟩
 have h' : X l f args s = some (r, s') := h
 unfold X at h'
 split at h'
 · rename_i q hq; cases h'; exact arg_ok hq
 · exact find_ok hl h'
theorem none : ∀ e ∈ ([] : List Ent), EntOk Tryz.prog G e := fun e he => by cases he
theorem entry {e : Ent} {l : List Ent} {m : Nat} (hl : ∀ e ∈ l, EntOk Tryz.prog G e) (hp : entPlain e = true) (h : runIs e (goR Tryz.prog G (X l) H m (startOf e)) = true) : EntOk Tryz.prog G e := ent_ok (given hl) plainG hp h
end Hd
end Go.Proofs.YtnijkdknnmgoeaaGreat
namespace Go.Proofs.YtnijkdknnmgoeaaGreat
open AI
set_option maxRecDepth 100000
set_option maxHeartbeats 4000000
def k0 : AV := strL [102, 97, 99, 116, 32, 97, 32, 58, 32, 110, 117, 109, 98, 101, 114, 59, 32, 108, 105, 110, 101, 32, 108, 32, 58, 32, 69, 85, 82, 32, 101, 97, 114, 110, 59, 32, 97, 114, 116, 105, 99, 108, 101, 32, 49, 32, 102, 111, 114, 32, 108, 32, 114, 97, 110, 107, 32, 48, 32, 102, 114, 111, 109, 32, 50, 48, 50, 52, 45, 48, 49, 45, 48, 49, 32, 107, 110, 111, 119, 110, 32, 50, 48, 50, 52, 45, 48, 49, 45, 48, 49, 32, 123, 32, 119, 104, 101, 110, 32, 97, 32, 33, 61, 32, 51, 59, 32, 97, 109, 111, 117, 110, 116, 32, 69, 85, 82, 32, 49, 46, 48, 48, 32, 42, 32, 97, 59, 32, 125, 32, 97, 114, 116, 105, 99, 108, 101, 32, 50, 32, 102, 111, 114, 32, 108, 32, 114, 97, 110, 107, 32, 48, 32, 102, 114, 111, 109, 32, 50, 48, 50, 52, 45, 48, 49, 45, 48, 49, 32, 116, 111, 32, 50, 48, 50, 53, 45, 48, 49, 45, 48, 49, 32, 107, 110, 111, 119, 110, 32, 50, 48, 50, 52, 45, 48, 49, 45, 48, 49, 32, 123, 32, 119, 104, 101, 110, 32, 119, 101, 101, 107, 100, 97, 121, 32, 61, 61, 32, 49, 59, 32, 119, 104, 101, 110, 32, 97, 32, 33, 61, 32, 51, 59, 32, 97, 109, 111, 117, 110, 116, 32, 97, 114, 116, 32, 51, 59, 32, 125, 32, 97, 114, 116, 105, 99, 108, 101, 32, 51, 32, 102, 111, 114, 32, 108, 32, 114, 97, 110, 107, 32, 48, 32, 102, 114, 111, 109, 32, 50, 48, 50, 52, 45, 48, 49, 45, 48, 49, 32, 107, 110, 111, 119, 110, 32, 50, 48, 50, 52, 45, 48, 50, 45, 48, 49, 32, 123, 32, 117, 110, 108, 101, 115, 115, 32, 49, 59, 32, 97, 109, 111, 117, 110, 116, 32, 69, 85, 82, 32, 48, 46, 48, 48, 59, 32, 125]
def k1 : AV := strL [50, 48, 50, 52, 45, 48, 49, 45, 48, 49]
def k2 : AV := strL [119, 101, 101, 107, 100, 97, 121]
def k3 : AV := strL [97, 114, 116, 105, 99, 108, 101]
def k4 : AV := strL [50, 48, 50, 53, 45, 48, 49, 45, 48, 49]
def k5 : AV := strL [50, 48, 50, 52, 45, 48, 50, 45, 48, 49]
def k6 : AV := .sl .lost 81 [(.sc (.int .i64 (.ofNat 1))), (strL [102, 97, 99, 116]), (.sc (.int .i64 (.ofNat 0))), (.sc (.int .i64 (.ofNat 1))), (strL [97]), (.sc (.int .i64 (.ofNat 5))), (.sc (.int .i64 (.ofNat 6))), (strL [58]), (.sc (.int .i64 (.ofNat 7))), (.sc (.int .i64 (.ofNat 1))), (strL [110, 117, 109, 98, 101, 114]), (.sc (.int .i64 (.ofNat 9))), (.sc (.int .i64 (.ofNat 6))), (strL [59]), (.sc (.int .i64 (.ofNat 15))), (.sc (.int .i64 (.ofNat 1))), (strL [108, 105, 110, 101]), (.sc (.int .i64 (.ofNat 17))), (.sc (.int .i64 (.ofNat 1))), (strL [108]), (.sc (.int .i64 (.ofNat 22))), (.sc (.int .i64 (.ofNat 6))), (strL [58]), (.sc (.int .i64 (.ofNat 24))), (.sc (.int .i64 (.ofNat 2))), (strL [69, 85, 82]), (.sc (.int .i64 (.ofNat 26))), (.sc (.int .i64 (.ofNat 1))), (strL [101, 97, 114, 110]), (.sc (.int .i64 (.ofNat 30))), (.sc (.int .i64 (.ofNat 6))), (strL [59]), (.sc (.int .i64 (.ofNat 34))), (.sc (.int .i64 (.ofNat 1))), k3, (.sc (.int .i64 (.ofNat 36))), (.sc (.int .i64 (.ofNat 3))), (strL [49]), (.sc (.int .i64 (.ofNat 44))), (.sc (.int .i64 (.ofNat 1))), (strL [102, 111, 114]), (.sc (.int .i64 (.ofNat 46))), (.sc (.int .i64 (.ofNat 1))), (strL [108]), (.sc (.int .i64 (.ofNat 50))), (.sc (.int .i64 (.ofNat 1))), (strL [114, 97, 110, 107]), (.sc (.int .i64 (.ofNat 52))), (.sc (.int .i64 (.ofNat 3))), (strL [48]), (.sc (.int .i64 (.ofNat 57))), (.sc (.int .i64 (.ofNat 1))), (strL [102, 114, 111, 109]), (.sc (.int .i64 (.ofNat 59))), (.sc (.int .i64 (.ofNat 5))), k1, (.sc (.int .i64 (.ofNat 64))), (.sc (.int .i64 (.ofNat 1))), (strL [107, 110, 111, 119, 110]), (.sc (.int .i64 (.ofNat 75))), (.sc (.int .i64 (.ofNat 5))), k1, (.sc (.int .i64 (.ofNat 81))), (.sc (.int .i64 (.ofNat 6))), (strL [123]), (.sc (.int .i64 (.ofNat 92))), (.sc (.int .i64 (.ofNat 1))), (strL [119, 104, 101, 110]), (.sc (.int .i64 (.ofNat 94))), (.sc (.int .i64 (.ofNat 1))), (strL [97]), (.sc (.int .i64 (.ofNat 99))), (.sc (.int .i64 (.ofNat 6))), (strL [33, 61]), (.sc (.int .i64 (.ofNat 101))), (.sc (.int .i64 (.ofNat 3))), (strL [51]), (.sc (.int .i64 (.ofNat 104))), (.sc (.int .i64 (.ofNat 6))), (strL [59]), (.sc (.int .i64 (.ofNat 105))), (.sc (.int .i64 (.ofNat 1))), (strL [97, 109, 111, 117, 110, 116]), (.sc (.int .i64 (.ofNat 107))), (.sc (.int .i64 (.ofNat 2))), (strL [69, 85, 82]), (.sc (.int .i64 (.ofNat 114))), (.sc (.int .i64 (.ofNat 4))), (strL [49, 46, 48, 48]), (.sc (.int .i64 (.ofNat 118))), (.sc (.int .i64 (.ofNat 6))), (strL [42]), (.sc (.int .i64 (.ofNat 123))), (.sc (.int .i64 (.ofNat 1))), (strL [97]), (.sc (.int .i64 (.ofNat 125))), (.sc (.int .i64 (.ofNat 6))), (strL [59]), (.sc (.int .i64 (.ofNat 126))), (.sc (.int .i64 (.ofNat 6))), (strL [125]), (.sc (.int .i64 (.ofNat 128))), (.sc (.int .i64 (.ofNat 1))), k3, (.sc (.int .i64 (.ofNat 130))), (.sc (.int .i64 (.ofNat 3))), (strL [50]), (.sc (.int .i64 (.ofNat 138))), (.sc (.int .i64 (.ofNat 1))), (strL [102, 111, 114]), (.sc (.int .i64 (.ofNat 140))), (.sc (.int .i64 (.ofNat 1))), (strL [108]), (.sc (.int .i64 (.ofNat 144))), (.sc (.int .i64 (.ofNat 1))), (strL [114, 97, 110, 107]), (.sc (.int .i64 (.ofNat 146))), (.sc (.int .i64 (.ofNat 3))), (strL [48]), (.sc (.int .i64 (.ofNat 151))), (.sc (.int .i64 (.ofNat 1))), (strL [102, 114, 111, 109]), (.sc (.int .i64 (.ofNat 153))), (.sc (.int .i64 (.ofNat 5))), k1, (.sc (.int .i64 (.ofNat 158))), (.sc (.int .i64 (.ofNat 1))), (strL [116, 111]), (.sc (.int .i64 (.ofNat 169))), (.sc (.int .i64 (.ofNat 5))), k4, (.sc (.int .i64 (.ofNat 172))), (.sc (.int .i64 (.ofNat 1))), (strL [107, 110, 111, 119, 110]), (.sc (.int .i64 (.ofNat 183))), (.sc (.int .i64 (.ofNat 5))), k1, (.sc (.int .i64 (.ofNat 189))), (.sc (.int .i64 (.ofNat 6))), (strL [123]), (.sc (.int .i64 (.ofNat 200))), (.sc (.int .i64 (.ofNat 1))), (strL [119, 104, 101, 110]), (.sc (.int .i64 (.ofNat 202))), (.sc (.int .i64 (.ofNat 1))), k2, (.sc (.int .i64 (.ofNat 207))), (.sc (.int .i64 (.ofNat 6))), (strL [61, 61]), (.sc (.int .i64 (.ofNat 215))), (.sc (.int .i64 (.ofNat 3))), (strL [49]), (.sc (.int .i64 (.ofNat 218))), (.sc (.int .i64 (.ofNat 6))), (strL [59]), (.sc (.int .i64 (.ofNat 219))), (.sc (.int .i64 (.ofNat 1))), (strL [119, 104, 101, 110]), (.sc (.int .i64 (.ofNat 221))), (.sc (.int .i64 (.ofNat 1))), (strL [97]), (.sc (.int .i64 (.ofNat 226))), (.sc (.int .i64 (.ofNat 6))), (strL [33, 61]), (.sc (.int .i64 (.ofNat 228))), (.sc (.int .i64 (.ofNat 3))), (strL [51]), (.sc (.int .i64 (.ofNat 231))), (.sc (.int .i64 (.ofNat 6))), (strL [59]), (.sc (.int .i64 (.ofNat 232))), (.sc (.int .i64 (.ofNat 1))), (strL [97, 109, 111, 117, 110, 116]), (.sc (.int .i64 (.ofNat 234))), (.sc (.int .i64 (.ofNat 1))), (strL [97, 114, 116]), (.sc (.int .i64 (.ofNat 241))), (.sc (.int .i64 (.ofNat 3))), (strL [51]), (.sc (.int .i64 (.ofNat 245))), (.sc (.int .i64 (.ofNat 6))), (strL [59]), (.sc (.int .i64 (.ofNat 246))), (.sc (.int .i64 (.ofNat 6))), (strL [125]), (.sc (.int .i64 (.ofNat 248))), (.sc (.int .i64 (.ofNat 1))), k3, (.sc (.int .i64 (.ofNat 250))), (.sc (.int .i64 (.ofNat 3))), (strL [51]), (.sc (.int .i64 (.ofNat 258))), (.sc (.int .i64 (.ofNat 1))), (strL [102, 111, 114]), (.sc (.int .i64 (.ofNat 260))), (.sc (.int .i64 (.ofNat 1))), (strL [108]), (.sc (.int .i64 (.ofNat 264))), (.sc (.int .i64 (.ofNat 1))), (strL [114, 97, 110, 107]), (.sc (.int .i64 (.ofNat 266))), (.sc (.int .i64 (.ofNat 3))), (strL [48]), (.sc (.int .i64 (.ofNat 271))), (.sc (.int .i64 (.ofNat 1))), (strL [102, 114, 111, 109]), (.sc (.int .i64 (.ofNat 273))), (.sc (.int .i64 (.ofNat 5))), k1, (.sc (.int .i64 (.ofNat 278))), (.sc (.int .i64 (.ofNat 1))), (strL [107, 110, 111, 119, 110]), (.sc (.int .i64 (.ofNat 289))), (.sc (.int .i64 (.ofNat 5))), k5, (.sc (.int .i64 (.ofNat 295))), (.sc (.int .i64 (.ofNat 6))), (strL [123]), (.sc (.int .i64 (.ofNat 306))), (.sc (.int .i64 (.ofNat 1))), (strL [117, 110, 108, 101, 115, 115]), (.sc (.int .i64 (.ofNat 308))), (.sc (.int .i64 (.ofNat 3))), (strL [49]), (.sc (.int .i64 (.ofNat 315))), (.sc (.int .i64 (.ofNat 6))), (strL [59]), (.sc (.int .i64 (.ofNat 316))), (.sc (.int .i64 (.ofNat 1))), (strL [97, 109, 111, 117, 110, 116]), (.sc (.int .i64 (.ofNat 318))), (.sc (.int .i64 (.ofNat 2))), (strL [69, 85, 82]), (.sc (.int .i64 (.ofNat 325))), (.sc (.int .i64 (.ofNat 4))), (strL [48, 46, 48, 48]), (.sc (.int .i64 (.ofNat 329))), (.sc (.int .i64 (.ofNat 6))), (strL [59]), (.sc (.int .i64 (.ofNat 333))), (.sc (.int .i64 (.ofNat 6))), (strL [125]), (.sc (.int .i64 (.ofNat 335)))]
def e0 : Ent := ⟨152, [k0, (.sc (.int .i64 (.ofNat 0)))], none, (.tup [(.agg [(.sc (.int .i64 (.ofNat 1))), (strL [102, 97, 99, 116]), (.sc (.int .i64 (.ofNat 0)))]), (.sc (.bool true))])⟩
theorem e0_ok : EntOk Tryz.prog Hd.G e0 := Hd.entry (l := []) (m := 1000000) Hd.none (by kernel_rfl) (by kernel_rfl)
def e1 : Ent := ⟨152, [k0, (.sc (.int .i64 (.ofNat 15)))], none, (.tup [(.agg [(.sc (.int .i64 (.ofNat 6))), (strL [59]), (.sc (.int .i64 (.ofNat 15)))]), (.sc (.bool true))])⟩
theorem e1_ok : EntOk Tryz.prog Hd.G e1 := Hd.entry (l := []) (m := 1000000) Hd.none (by kernel_rfl) (by kernel_rfl)
def e2 : Ent := ⟨152, [k0, (.sc (.int .i64 (.ofNat 26)))], none, (.tup [(.agg [(.sc (.int .i64 (.ofNat 2))), (strL [69, 85, 82]), (.sc (.int .i64 (.ofNat 26)))]), (.sc (.bool true))])⟩
theorem e2_ok : EntOk Tryz.prog Hd.G e2 := Hd.entry (l := []) (m := 1000000) Hd.none (by kernel_rfl) (by kernel_rfl)
def e3 : Ent := ⟨152, [k0, (.sc (.int .i64 (.ofNat 44)))], none, (.tup [(.agg [(.sc (.int .i64 (.ofNat 3))), (strL [49]), (.sc (.int .i64 (.ofNat 44)))]), (.sc (.bool true))])⟩
theorem e3_ok : EntOk Tryz.prog Hd.G e3 := Hd.entry (l := []) (m := 1000000) Hd.none (by kernel_rfl) (by kernel_rfl)
def e4 : Ent := ⟨152, [k0, (.sc (.int .i64 (.ofNat 57)))], none, (.tup [(.agg [(.sc (.int .i64 (.ofNat 3))), (strL [48]), (.sc (.int .i64 (.ofNat 57)))]), (.sc (.bool true))])⟩
theorem e4_ok : EntOk Tryz.prog Hd.G e4 := Hd.entry (l := []) (m := 1000000) Hd.none (by kernel_rfl) (by kernel_rfl)
def e5 : Ent := ⟨152, [k0, (.sc (.int .i64 (.ofNat 81)))], none, (.tup [(.agg [(.sc (.int .i64 (.ofNat 5))), k1, (.sc (.int .i64 (.ofNat 81)))]), (.sc (.bool true))])⟩
theorem e5_ok : EntOk Tryz.prog Hd.G e5 := Hd.entry (l := []) (m := 1000000) Hd.none (by kernel_rfl) (by kernel_rfl)
def e6 : Ent := ⟨152, [k0, (.sc (.int .i64 (.ofNat 101)))], none, (.tup [(.agg [(.sc (.int .i64 (.ofNat 6))), (strL [33, 61]), (.sc (.int .i64 (.ofNat 101)))]), (.sc (.bool true))])⟩
theorem e6_ok : EntOk Tryz.prog Hd.G e6 := Hd.entry (l := []) (m := 1000000) Hd.none (by kernel_rfl) (by kernel_rfl)
def e7 : Ent := ⟨152, [k0, (.sc (.int .i64 (.ofNat 114)))], none, (.tup [(.agg [(.sc (.int .i64 (.ofNat 2))), (strL [69, 85, 82]), (.sc (.int .i64 (.ofNat 114)))]), (.sc (.bool true))])⟩
theorem e7_ok : EntOk Tryz.prog Hd.G e7 := Hd.entry (l := []) (m := 1000000) Hd.none (by kernel_rfl) (by kernel_rfl)
def e8 : Ent := ⟨152, [k0, (.sc (.int .i64 (.ofNat 126)))], none, (.tup [(.agg [(.sc (.int .i64 (.ofNat 6))), (strL [59]), (.sc (.int .i64 (.ofNat 126)))]), (.sc (.bool true))])⟩
theorem e8_ok : EntOk Tryz.prog Hd.G e8 := Hd.entry (l := []) (m := 1000000) Hd.none (by kernel_rfl) (by kernel_rfl)
def e9 : Ent := ⟨152, [k0, (.sc (.int .i64 (.ofNat 140)))], none, (.tup [(.agg [(.sc (.int .i64 (.ofNat 1))), (strL [102, 111, 114]), (.sc (.int .i64 (.ofNat 140)))]), (.sc (.bool true))])⟩
theorem e9_ok : EntOk Tryz.prog Hd.G e9 := Hd.entry (l := []) (m := 1000000) Hd.none (by kernel_rfl) (by kernel_rfl)
def e10 : Ent := ⟨152, [k0, (.sc (.int .i64 (.ofNat 153)))], none, (.tup [(.agg [(.sc (.int .i64 (.ofNat 1))), (strL [102, 114, 111, 109]), (.sc (.int .i64 (.ofNat 153)))]), (.sc (.bool true))])⟩
theorem e10_ok : EntOk Tryz.prog Hd.G e10 := Hd.entry (l := []) (m := 1000000) Hd.none (by kernel_rfl) (by kernel_rfl)
def e11 : Ent := ⟨152, [k0, (.sc (.int .i64 (.ofNat 183)))], none, (.tup [(.agg [(.sc (.int .i64 (.ofNat 1))), (strL [107, 110, 111, 119, 110]), (.sc (.int .i64 (.ofNat 183)))]), (.sc (.bool true))])⟩
theorem e11_ok : EntOk Tryz.prog Hd.G e11 := Hd.entry (l := []) (m := 1000000) Hd.none (by kernel_rfl) (by kernel_rfl)
def e12 : Ent := ⟨152, [k0, (.sc (.int .i64 (.ofNat 207)))], none, (.tup [(.agg [(.sc (.int .i64 (.ofNat 1))), k2, (.sc (.int .i64 (.ofNat 207)))]), (.sc (.bool true))])⟩
theorem e12_ok : EntOk Tryz.prog Hd.G e12 := Hd.entry (l := []) (m := 1000000) Hd.none (by kernel_rfl) (by kernel_rfl)
def e13 : Ent := ⟨152, [k0, (.sc (.int .i64 (.ofNat 221)))], none, (.tup [(.agg [(.sc (.int .i64 (.ofNat 1))), (strL [119, 104, 101, 110]), (.sc (.int .i64 (.ofNat 221)))]), (.sc (.bool true))])⟩
theorem e13_ok : EntOk Tryz.prog Hd.G e13 := Hd.entry (l := []) (m := 1000000) Hd.none (by kernel_rfl) (by kernel_rfl)
def e14 : Ent := ⟨152, [k0, (.sc (.int .i64 (.ofNat 232)))], none, (.tup [(.agg [(.sc (.int .i64 (.ofNat 6))), (strL [59]), (.sc (.int .i64 (.ofNat 232)))]), (.sc (.bool true))])⟩
theorem e14_ok : EntOk Tryz.prog Hd.G e14 := Hd.entry (l := []) (m := 1000000) Hd.none (by kernel_rfl) (by kernel_rfl)
def e15 : Ent := ⟨152, [k0, (.sc (.int .i64 (.ofNat 246)))], none, (.tup [(.agg [(.sc (.int .i64 (.ofNat 6))), (strL [59]), (.sc (.int .i64 (.ofNat 246)))]), (.sc (.bool true))])⟩
theorem e15_ok : EntOk Tryz.prog Hd.G e15 := Hd.entry (l := []) (m := 1000000) Hd.none (by kernel_rfl) (by kernel_rfl)
def e16 : Ent := ⟨152, [k0, (.sc (.int .i64 (.ofNat 260)))], none, (.tup [(.agg [(.sc (.int .i64 (.ofNat 1))), (strL [102, 111, 114]), (.sc (.int .i64 (.ofNat 260)))]), (.sc (.bool true))])⟩
theorem e16_ok : EntOk Tryz.prog Hd.G e16 := Hd.entry (l := []) (m := 1000000) Hd.none (by kernel_rfl) (by kernel_rfl)
def e17 : Ent := ⟨152, [k0, (.sc (.int .i64 (.ofNat 273)))], none, (.tup [(.agg [(.sc (.int .i64 (.ofNat 1))), (strL [102, 114, 111, 109]), (.sc (.int .i64 (.ofNat 273)))]), (.sc (.bool true))])⟩
theorem e17_ok : EntOk Tryz.prog Hd.G e17 := Hd.entry (l := []) (m := 1000000) Hd.none (by kernel_rfl) (by kernel_rfl)
def e18 : Ent := ⟨152, [k0, (.sc (.int .i64 (.ofNat 306)))], none, (.tup [(.agg [(.sc (.int .i64 (.ofNat 6))), (strL [123]), (.sc (.int .i64 (.ofNat 306)))]), (.sc (.bool true))])⟩
theorem e18_ok : EntOk Tryz.prog Hd.G e18 := Hd.entry (l := []) (m := 1000000) Hd.none (by kernel_rfl) (by kernel_rfl)
def e19 : Ent := ⟨152, [k0, (.sc (.int .i64 (.ofNat 318)))], none, (.tup [(.agg [(.sc (.int .i64 (.ofNat 1))), (strL [97, 109, 111, 117, 110, 116]), (.sc (.int .i64 (.ofNat 318)))]), (.sc (.bool true))])⟩
theorem e19_ok : EntOk Tryz.prog Hd.G e19 := Hd.entry (l := []) (m := 1000000) Hd.none (by kernel_rfl) (by kernel_rfl)
def e20 : Ent := ⟨152, [k0, (.sc (.int .i64 (.ofNat 335)))], none, (.tup [(.agg [(.sc (.int .i64 (.ofNat 6))), (strL [125]), (.sc (.int .i64 (.ofNat 335)))]), (.sc (.bool true))])⟩
theorem e20_ok : EntOk Tryz.prog Hd.G e20 := Hd.entry (l := []) (m := 1000000) Hd.none (by kernel_rfl) (by kernel_rfl)
def e21 : Ent := ⟨152, [k0, (.sc (.int .i64 (.ofNat 5)))], none, (.tup [(.agg [(.sc (.int .i64 (.ofNat 1))), (strL [97]), (.sc (.int .i64 (.ofNat 5)))]), (.sc (.bool true))])⟩
theorem e21_ok : EntOk Tryz.prog Hd.G e21 := Hd.entry (l := []) (m := 1000000) Hd.none (by kernel_rfl) (by kernel_rfl)
def e22 : Ent := ⟨152, [k0, (.sc (.int .i64 (.ofNat 17)))], none, (.tup [(.agg [(.sc (.int .i64 (.ofNat 1))), (strL [108, 105, 110, 101]), (.sc (.int .i64 (.ofNat 17)))]), (.sc (.bool true))])⟩
theorem e22_ok : EntOk Tryz.prog Hd.G e22 := Hd.entry (l := []) (m := 1000000) Hd.none (by kernel_rfl) (by kernel_rfl)
def e23 : Ent := ⟨152, [k0, (.sc (.int .i64 (.ofNat 30)))], none, (.tup [(.agg [(.sc (.int .i64 (.ofNat 1))), (strL [101, 97, 114, 110]), (.sc (.int .i64 (.ofNat 30)))]), (.sc (.bool true))])⟩
theorem e23_ok : EntOk Tryz.prog Hd.G e23 := Hd.entry (l := []) (m := 1000000) Hd.none (by kernel_rfl) (by kernel_rfl)
def e24 : Ent := ⟨152, [k0, (.sc (.int .i64 (.ofNat 46)))], none, (.tup [(.agg [(.sc (.int .i64 (.ofNat 1))), (strL [102, 111, 114]), (.sc (.int .i64 (.ofNat 46)))]), (.sc (.bool true))])⟩
theorem e24_ok : EntOk Tryz.prog Hd.G e24 := Hd.entry (l := []) (m := 1000000) Hd.none (by kernel_rfl) (by kernel_rfl)
def e25 : Ent := ⟨152, [k0, (.sc (.int .i64 (.ofNat 59)))], none, (.tup [(.agg [(.sc (.int .i64 (.ofNat 1))), (strL [102, 114, 111, 109]), (.sc (.int .i64 (.ofNat 59)))]), (.sc (.bool true))])⟩
theorem e25_ok : EntOk Tryz.prog Hd.G e25 := Hd.entry (l := []) (m := 1000000) Hd.none (by kernel_rfl) (by kernel_rfl)
def e26 : Ent := ⟨152, [k0, (.sc (.int .i64 (.ofNat 92)))], none, (.tup [(.agg [(.sc (.int .i64 (.ofNat 6))), (strL [123]), (.sc (.int .i64 (.ofNat 92)))]), (.sc (.bool true))])⟩
theorem e26_ok : EntOk Tryz.prog Hd.G e26 := Hd.entry (l := []) (m := 1000000) Hd.none (by kernel_rfl) (by kernel_rfl)
def e27 : Ent := ⟨152, [k0, (.sc (.int .i64 (.ofNat 104)))], none, (.tup [(.agg [(.sc (.int .i64 (.ofNat 3))), (strL [51]), (.sc (.int .i64 (.ofNat 104)))]), (.sc (.bool true))])⟩
theorem e27_ok : EntOk Tryz.prog Hd.G e27 := Hd.entry (l := []) (m := 1000000) Hd.none (by kernel_rfl) (by kernel_rfl)
def e28 : Ent := ⟨152, [k0, (.sc (.int .i64 (.ofNat 118)))], none, (.tup [(.agg [(.sc (.int .i64 (.ofNat 4))), (strL [49, 46, 48, 48]), (.sc (.int .i64 (.ofNat 118)))]), (.sc (.bool true))])⟩
theorem e28_ok : EntOk Tryz.prog Hd.G e28 := Hd.entry (l := []) (m := 1000000) Hd.none (by kernel_rfl) (by kernel_rfl)
def e29 : Ent := ⟨152, [k0, (.sc (.int .i64 (.ofNat 128)))], none, (.tup [(.agg [(.sc (.int .i64 (.ofNat 6))), (strL [125]), (.sc (.int .i64 (.ofNat 128)))]), (.sc (.bool true))])⟩
theorem e29_ok : EntOk Tryz.prog Hd.G e29 := Hd.entry (l := []) (m := 1000000) Hd.none (by kernel_rfl) (by kernel_rfl)
def e30 : Ent := ⟨152, [k0, (.sc (.int .i64 (.ofNat 144)))], none, (.tup [(.agg [(.sc (.int .i64 (.ofNat 1))), (strL [108]), (.sc (.int .i64 (.ofNat 144)))]), (.sc (.bool true))])⟩
theorem e30_ok : EntOk Tryz.prog Hd.G e30 := Hd.entry (l := []) (m := 1000000) Hd.none (by kernel_rfl) (by kernel_rfl)
def e31 : Ent := ⟨152, [k0, (.sc (.int .i64 (.ofNat 158)))], none, (.tup [(.agg [(.sc (.int .i64 (.ofNat 5))), k1, (.sc (.int .i64 (.ofNat 158)))]), (.sc (.bool true))])⟩
theorem e31_ok : EntOk Tryz.prog Hd.G e31 := Hd.entry (l := []) (m := 1000000) Hd.none (by kernel_rfl) (by kernel_rfl)
def e32 : Ent := ⟨152, [k0, (.sc (.int .i64 (.ofNat 189)))], none, (.tup [(.agg [(.sc (.int .i64 (.ofNat 5))), k1, (.sc (.int .i64 (.ofNat 189)))]), (.sc (.bool true))])⟩
theorem e32_ok : EntOk Tryz.prog Hd.G e32 := Hd.entry (l := []) (m := 1000000) Hd.none (by kernel_rfl) (by kernel_rfl)
def e33 : Ent := ⟨152, [k0, (.sc (.int .i64 (.ofNat 215)))], none, (.tup [(.agg [(.sc (.int .i64 (.ofNat 6))), (strL [61, 61]), (.sc (.int .i64 (.ofNat 215)))]), (.sc (.bool true))])⟩
theorem e33_ok : EntOk Tryz.prog Hd.G e33 := Hd.entry (l := []) (m := 1000000) Hd.none (by kernel_rfl) (by kernel_rfl)
def e34 : Ent := ⟨152, [k0, (.sc (.int .i64 (.ofNat 226)))], none, (.tup [(.agg [(.sc (.int .i64 (.ofNat 1))), (strL [97]), (.sc (.int .i64 (.ofNat 226)))]), (.sc (.bool true))])⟩
theorem e34_ok : EntOk Tryz.prog Hd.G e34 := Hd.entry (l := []) (m := 1000000) Hd.none (by kernel_rfl) (by kernel_rfl)
def e35 : Ent := ⟨152, [k0, (.sc (.int .i64 (.ofNat 234)))], none, (.tup [(.agg [(.sc (.int .i64 (.ofNat 1))), (strL [97, 109, 111, 117, 110, 116]), (.sc (.int .i64 (.ofNat 234)))]), (.sc (.bool true))])⟩
theorem e35_ok : EntOk Tryz.prog Hd.G e35 := Hd.entry (l := []) (m := 1000000) Hd.none (by kernel_rfl) (by kernel_rfl)
def e36 : Ent := ⟨152, [k0, (.sc (.int .i64 (.ofNat 248)))], none, (.tup [(.agg [(.sc (.int .i64 (.ofNat 6))), (strL [125]), (.sc (.int .i64 (.ofNat 248)))]), (.sc (.bool true))])⟩
theorem e36_ok : EntOk Tryz.prog Hd.G e36 := Hd.entry (l := []) (m := 1000000) Hd.none (by kernel_rfl) (by kernel_rfl)
def e37 : Ent := ⟨152, [k0, (.sc (.int .i64 (.ofNat 264)))], none, (.tup [(.agg [(.sc (.int .i64 (.ofNat 1))), (strL [108]), (.sc (.int .i64 (.ofNat 264)))]), (.sc (.bool true))])⟩
theorem e37_ok : EntOk Tryz.prog Hd.G e37 := Hd.entry (l := []) (m := 1000000) Hd.none (by kernel_rfl) (by kernel_rfl)
def e38 : Ent := ⟨152, [k0, (.sc (.int .i64 (.ofNat 278)))], none, (.tup [(.agg [(.sc (.int .i64 (.ofNat 5))), k1, (.sc (.int .i64 (.ofNat 278)))]), (.sc (.bool true))])⟩
theorem e38_ok : EntOk Tryz.prog Hd.G e38 := Hd.entry (l := []) (m := 1000000) Hd.none (by kernel_rfl) (by kernel_rfl)
def e39 : Ent := ⟨152, [k0, (.sc (.int .i64 (.ofNat 308)))], none, (.tup [(.agg [(.sc (.int .i64 (.ofNat 1))), (strL [117, 110, 108, 101, 115, 115]), (.sc (.int .i64 (.ofNat 308)))]), (.sc (.bool true))])⟩
theorem e39_ok : EntOk Tryz.prog Hd.G e39 := Hd.entry (l := []) (m := 1000000) Hd.none (by kernel_rfl) (by kernel_rfl)
def e40 : Ent := ⟨152, [k0, (.sc (.int .i64 (.ofNat 325)))], none, (.tup [(.agg [(.sc (.int .i64 (.ofNat 2))), (strL [69, 85, 82]), (.sc (.int .i64 (.ofNat 325)))]), (.sc (.bool true))])⟩
theorem e40_ok : EntOk Tryz.prog Hd.G e40 := Hd.entry (l := []) (m := 1000000) Hd.none (by kernel_rfl) (by kernel_rfl)
def e41 : Ent := ⟨152, [k0, (.sc (.int .i64 (.ofNat 7)))], none, (.tup [(.agg [(.sc (.int .i64 (.ofNat 6))), (strL [58]), (.sc (.int .i64 (.ofNat 7)))]), (.sc (.bool true))])⟩
theorem e41_ok : EntOk Tryz.prog Hd.G e41 := Hd.entry (l := []) (m := 1000000) Hd.none (by kernel_rfl) (by kernel_rfl)
def e42 : Ent := ⟨152, [k0, (.sc (.int .i64 (.ofNat 22)))], none, (.tup [(.agg [(.sc (.int .i64 (.ofNat 1))), (strL [108]), (.sc (.int .i64 (.ofNat 22)))]), (.sc (.bool true))])⟩
theorem e42_ok : EntOk Tryz.prog Hd.G e42 := Hd.entry (l := []) (m := 1000000) Hd.none (by kernel_rfl) (by kernel_rfl)
def e43 : Ent := ⟨152, [k0, (.sc (.int .i64 (.ofNat 34)))], none, (.tup [(.agg [(.sc (.int .i64 (.ofNat 6))), (strL [59]), (.sc (.int .i64 (.ofNat 34)))]), (.sc (.bool true))])⟩
theorem e43_ok : EntOk Tryz.prog Hd.G e43 := Hd.entry (l := []) (m := 1000000) Hd.none (by kernel_rfl) (by kernel_rfl)
def e44 : Ent := ⟨152, [k0, (.sc (.int .i64 (.ofNat 50)))], none, (.tup [(.agg [(.sc (.int .i64 (.ofNat 1))), (strL [108]), (.sc (.int .i64 (.ofNat 50)))]), (.sc (.bool true))])⟩
theorem e44_ok : EntOk Tryz.prog Hd.G e44 := Hd.entry (l := []) (m := 1000000) Hd.none (by kernel_rfl) (by kernel_rfl)
def e45 : Ent := ⟨152, [k0, (.sc (.int .i64 (.ofNat 64)))], none, (.tup [(.agg [(.sc (.int .i64 (.ofNat 5))), k1, (.sc (.int .i64 (.ofNat 64)))]), (.sc (.bool true))])⟩
theorem e45_ok : EntOk Tryz.prog Hd.G e45 := Hd.entry (l := []) (m := 1000000) Hd.none (by kernel_rfl) (by kernel_rfl)
def e46 : Ent := ⟨152, [k0, (.sc (.int .i64 (.ofNat 94)))], none, (.tup [(.agg [(.sc (.int .i64 (.ofNat 1))), (strL [119, 104, 101, 110]), (.sc (.int .i64 (.ofNat 94)))]), (.sc (.bool true))])⟩
theorem e46_ok : EntOk Tryz.prog Hd.G e46 := Hd.entry (l := []) (m := 1000000) Hd.none (by kernel_rfl) (by kernel_rfl)
def e47 : Ent := ⟨152, [k0, (.sc (.int .i64 (.ofNat 105)))], none, (.tup [(.agg [(.sc (.int .i64 (.ofNat 6))), (strL [59]), (.sc (.int .i64 (.ofNat 105)))]), (.sc (.bool true))])⟩
theorem e47_ok : EntOk Tryz.prog Hd.G e47 := Hd.entry (l := []) (m := 1000000) Hd.none (by kernel_rfl) (by kernel_rfl)
def e48 : Ent := ⟨152, [k0, (.sc (.int .i64 (.ofNat 123)))], none, (.tup [(.agg [(.sc (.int .i64 (.ofNat 6))), (strL [42]), (.sc (.int .i64 (.ofNat 123)))]), (.sc (.bool true))])⟩
theorem e48_ok : EntOk Tryz.prog Hd.G e48 := Hd.entry (l := []) (m := 1000000) Hd.none (by kernel_rfl) (by kernel_rfl)
def e49 : Ent := ⟨152, [k0, (.sc (.int .i64 (.ofNat 130)))], none, (.tup [(.agg [(.sc (.int .i64 (.ofNat 1))), k3, (.sc (.int .i64 (.ofNat 130)))]), (.sc (.bool true))])⟩
theorem e49_ok : EntOk Tryz.prog Hd.G e49 := Hd.entry (l := []) (m := 1000000) Hd.none (by kernel_rfl) (by kernel_rfl)
def e50 : Ent := ⟨152, [k0, (.sc (.int .i64 (.ofNat 146)))], none, (.tup [(.agg [(.sc (.int .i64 (.ofNat 1))), (strL [114, 97, 110, 107]), (.sc (.int .i64 (.ofNat 146)))]), (.sc (.bool true))])⟩
theorem e50_ok : EntOk Tryz.prog Hd.G e50 := Hd.entry (l := []) (m := 1000000) Hd.none (by kernel_rfl) (by kernel_rfl)
def e51 : Ent := ⟨152, [k0, (.sc (.int .i64 (.ofNat 169)))], none, (.tup [(.agg [(.sc (.int .i64 (.ofNat 1))), (strL [116, 111]), (.sc (.int .i64 (.ofNat 169)))]), (.sc (.bool true))])⟩
theorem e51_ok : EntOk Tryz.prog Hd.G e51 := Hd.entry (l := []) (m := 1000000) Hd.none (by kernel_rfl) (by kernel_rfl)
def e52 : Ent := ⟨152, [k0, (.sc (.int .i64 (.ofNat 200)))], none, (.tup [(.agg [(.sc (.int .i64 (.ofNat 6))), (strL [123]), (.sc (.int .i64 (.ofNat 200)))]), (.sc (.bool true))])⟩
theorem e52_ok : EntOk Tryz.prog Hd.G e52 := Hd.entry (l := []) (m := 1000000) Hd.none (by kernel_rfl) (by kernel_rfl)
def e53 : Ent := ⟨152, [k0, (.sc (.int .i64 (.ofNat 218)))], none, (.tup [(.agg [(.sc (.int .i64 (.ofNat 3))), (strL [49]), (.sc (.int .i64 (.ofNat 218)))]), (.sc (.bool true))])⟩
theorem e53_ok : EntOk Tryz.prog Hd.G e53 := Hd.entry (l := []) (m := 1000000) Hd.none (by kernel_rfl) (by kernel_rfl)
def e54 : Ent := ⟨152, [k0, (.sc (.int .i64 (.ofNat 228)))], none, (.tup [(.agg [(.sc (.int .i64 (.ofNat 6))), (strL [33, 61]), (.sc (.int .i64 (.ofNat 228)))]), (.sc (.bool true))])⟩
theorem e54_ok : EntOk Tryz.prog Hd.G e54 := Hd.entry (l := []) (m := 1000000) Hd.none (by kernel_rfl) (by kernel_rfl)
def e55 : Ent := ⟨152, [k0, (.sc (.int .i64 (.ofNat 241)))], none, (.tup [(.agg [(.sc (.int .i64 (.ofNat 1))), (strL [97, 114, 116]), (.sc (.int .i64 (.ofNat 241)))]), (.sc (.bool true))])⟩
theorem e55_ok : EntOk Tryz.prog Hd.G e55 := Hd.entry (l := []) (m := 1000000) Hd.none (by kernel_rfl) (by kernel_rfl)
def e56 : Ent := ⟨152, [k0, (.sc (.int .i64 (.ofNat 250)))], none, (.tup [(.agg [(.sc (.int .i64 (.ofNat 1))), k3, (.sc (.int .i64 (.ofNat 250)))]), (.sc (.bool true))])⟩
theorem e56_ok : EntOk Tryz.prog Hd.G e56 := Hd.entry (l := []) (m := 1000000) Hd.none (by kernel_rfl) (by kernel_rfl)
def e57 : Ent := ⟨152, [k0, (.sc (.int .i64 (.ofNat 266)))], none, (.tup [(.agg [(.sc (.int .i64 (.ofNat 1))), (strL [114, 97, 110, 107]), (.sc (.int .i64 (.ofNat 266)))]), (.sc (.bool true))])⟩
theorem e57_ok : EntOk Tryz.prog Hd.G e57 := Hd.entry (l := []) (m := 1000000) Hd.none (by kernel_rfl) (by kernel_rfl)
def e58 : Ent := ⟨152, [k0, (.sc (.int .i64 (.ofNat 289)))], none, (.tup [(.agg [(.sc (.int .i64 (.ofNat 1))), (strL [107, 110, 111, 119, 110]), (.sc (.int .i64 (.ofNat 289)))]), (.sc (.bool true))])⟩
theorem e58_ok : EntOk Tryz.prog Hd.G e58 := Hd.entry (l := []) (m := 1000000) Hd.none (by kernel_rfl) (by kernel_rfl)
def e59 : Ent := ⟨152, [k0, (.sc (.int .i64 (.ofNat 315)))], none, (.tup [(.agg [(.sc (.int .i64 (.ofNat 3))), (strL [49]), (.sc (.int .i64 (.ofNat 315)))]), (.sc (.bool true))])⟩
theorem e59_ok : EntOk Tryz.prog Hd.G e59 := Hd.entry (l := []) (m := 1000000) Hd.none (by kernel_rfl) (by kernel_rfl)
def e60 : Ent := ⟨152, [k0, (.sc (.int .i64 (.ofNat 329)))], none, (.tup [(.agg [(.sc (.int .i64 (.ofNat 4))), (strL [48, 46, 48, 48]), (.sc (.int .i64 (.ofNat 329)))]), (.sc (.bool true))])⟩
theorem e60_ok : EntOk Tryz.prog Hd.G e60 := Hd.entry (l := []) (m := 1000000) Hd.none (by kernel_rfl) (by kernel_rfl)
def e61 : Ent := ⟨152, [k0, (.sc (.int .i64 (.ofNat 9)))], none, (.tup [(.agg [(.sc (.int .i64 (.ofNat 1))), (strL [110, 117, 109, 98, 101, 114]), (.sc (.int .i64 (.ofNat 9)))]), (.sc (.bool true))])⟩
theorem e61_ok : EntOk Tryz.prog Hd.G e61 := Hd.entry (l := []) (m := 1000000) Hd.none (by kernel_rfl) (by kernel_rfl)
def e62 : Ent := ⟨152, [k0, (.sc (.int .i64 (.ofNat 24)))], none, (.tup [(.agg [(.sc (.int .i64 (.ofNat 6))), (strL [58]), (.sc (.int .i64 (.ofNat 24)))]), (.sc (.bool true))])⟩
theorem e62_ok : EntOk Tryz.prog Hd.G e62 := Hd.entry (l := []) (m := 1000000) Hd.none (by kernel_rfl) (by kernel_rfl)
def e63 : Ent := ⟨152, [k0, (.sc (.int .i64 (.ofNat 36)))], none, (.tup [(.agg [(.sc (.int .i64 (.ofNat 1))), k3, (.sc (.int .i64 (.ofNat 36)))]), (.sc (.bool true))])⟩
theorem e63_ok : EntOk Tryz.prog Hd.G e63 := Hd.entry (l := []) (m := 1000000) Hd.none (by kernel_rfl) (by kernel_rfl)
def e64 : Ent := ⟨152, [k0, (.sc (.int .i64 (.ofNat 52)))], none, (.tup [(.agg [(.sc (.int .i64 (.ofNat 1))), (strL [114, 97, 110, 107]), (.sc (.int .i64 (.ofNat 52)))]), (.sc (.bool true))])⟩
theorem e64_ok : EntOk Tryz.prog Hd.G e64 := Hd.entry (l := []) (m := 1000000) Hd.none (by kernel_rfl) (by kernel_rfl)
def e65 : Ent := ⟨152, [k0, (.sc (.int .i64 (.ofNat 75)))], none, (.tup [(.agg [(.sc (.int .i64 (.ofNat 1))), (strL [107, 110, 111, 119, 110]), (.sc (.int .i64 (.ofNat 75)))]), (.sc (.bool true))])⟩
theorem e65_ok : EntOk Tryz.prog Hd.G e65 := Hd.entry (l := []) (m := 1000000) Hd.none (by kernel_rfl) (by kernel_rfl)
def e66 : Ent := ⟨152, [k0, (.sc (.int .i64 (.ofNat 99)))], none, (.tup [(.agg [(.sc (.int .i64 (.ofNat 1))), (strL [97]), (.sc (.int .i64 (.ofNat 99)))]), (.sc (.bool true))])⟩
theorem e66_ok : EntOk Tryz.prog Hd.G e66 := Hd.entry (l := []) (m := 1000000) Hd.none (by kernel_rfl) (by kernel_rfl)
def e67 : Ent := ⟨152, [k0, (.sc (.int .i64 (.ofNat 107)))], none, (.tup [(.agg [(.sc (.int .i64 (.ofNat 1))), (strL [97, 109, 111, 117, 110, 116]), (.sc (.int .i64 (.ofNat 107)))]), (.sc (.bool true))])⟩
theorem e67_ok : EntOk Tryz.prog Hd.G e67 := Hd.entry (l := []) (m := 1000000) Hd.none (by kernel_rfl) (by kernel_rfl)
def e68 : Ent := ⟨152, [k0, (.sc (.int .i64 (.ofNat 125)))], none, (.tup [(.agg [(.sc (.int .i64 (.ofNat 1))), (strL [97]), (.sc (.int .i64 (.ofNat 125)))]), (.sc (.bool true))])⟩
theorem e68_ok : EntOk Tryz.prog Hd.G e68 := Hd.entry (l := []) (m := 1000000) Hd.none (by kernel_rfl) (by kernel_rfl)
def e69 : Ent := ⟨152, [k0, (.sc (.int .i64 (.ofNat 138)))], none, (.tup [(.agg [(.sc (.int .i64 (.ofNat 3))), (strL [50]), (.sc (.int .i64 (.ofNat 138)))]), (.sc (.bool true))])⟩
theorem e69_ok : EntOk Tryz.prog Hd.G e69 := Hd.entry (l := []) (m := 1000000) Hd.none (by kernel_rfl) (by kernel_rfl)
def e70 : Ent := ⟨152, [k0, (.sc (.int .i64 (.ofNat 151)))], none, (.tup [(.agg [(.sc (.int .i64 (.ofNat 3))), (strL [48]), (.sc (.int .i64 (.ofNat 151)))]), (.sc (.bool true))])⟩
theorem e70_ok : EntOk Tryz.prog Hd.G e70 := Hd.entry (l := []) (m := 1000000) Hd.none (by kernel_rfl) (by kernel_rfl)
def e71 : Ent := ⟨152, [k0, (.sc (.int .i64 (.ofNat 172)))], none, (.tup [(.agg [(.sc (.int .i64 (.ofNat 5))), k4, (.sc (.int .i64 (.ofNat 172)))]), (.sc (.bool true))])⟩
theorem e71_ok : EntOk Tryz.prog Hd.G e71 := Hd.entry (l := []) (m := 1000000) Hd.none (by kernel_rfl) (by kernel_rfl)
def e72 : Ent := ⟨152, [k0, (.sc (.int .i64 (.ofNat 202)))], none, (.tup [(.agg [(.sc (.int .i64 (.ofNat 1))), (strL [119, 104, 101, 110]), (.sc (.int .i64 (.ofNat 202)))]), (.sc (.bool true))])⟩
theorem e72_ok : EntOk Tryz.prog Hd.G e72 := Hd.entry (l := []) (m := 1000000) Hd.none (by kernel_rfl) (by kernel_rfl)
def e73 : Ent := ⟨152, [k0, (.sc (.int .i64 (.ofNat 219)))], none, (.tup [(.agg [(.sc (.int .i64 (.ofNat 6))), (strL [59]), (.sc (.int .i64 (.ofNat 219)))]), (.sc (.bool true))])⟩
theorem e73_ok : EntOk Tryz.prog Hd.G e73 := Hd.entry (l := []) (m := 1000000) Hd.none (by kernel_rfl) (by kernel_rfl)
def e74 : Ent := ⟨152, [k0, (.sc (.int .i64 (.ofNat 231)))], none, (.tup [(.agg [(.sc (.int .i64 (.ofNat 3))), (strL [51]), (.sc (.int .i64 (.ofNat 231)))]), (.sc (.bool true))])⟩
theorem e74_ok : EntOk Tryz.prog Hd.G e74 := Hd.entry (l := []) (m := 1000000) Hd.none (by kernel_rfl) (by kernel_rfl)
def e75 : Ent := ⟨152, [k0, (.sc (.int .i64 (.ofNat 245)))], none, (.tup [(.agg [(.sc (.int .i64 (.ofNat 3))), (strL [51]), (.sc (.int .i64 (.ofNat 245)))]), (.sc (.bool true))])⟩
theorem e75_ok : EntOk Tryz.prog Hd.G e75 := Hd.entry (l := []) (m := 1000000) Hd.none (by kernel_rfl) (by kernel_rfl)
def e76 : Ent := ⟨152, [k0, (.sc (.int .i64 (.ofNat 258)))], none, (.tup [(.agg [(.sc (.int .i64 (.ofNat 3))), (strL [51]), (.sc (.int .i64 (.ofNat 258)))]), (.sc (.bool true))])⟩
theorem e76_ok : EntOk Tryz.prog Hd.G e76 := Hd.entry (l := []) (m := 1000000) Hd.none (by kernel_rfl) (by kernel_rfl)
def e77 : Ent := ⟨152, [k0, (.sc (.int .i64 (.ofNat 271)))], none, (.tup [(.agg [(.sc (.int .i64 (.ofNat 3))), (strL [48]), (.sc (.int .i64 (.ofNat 271)))]), (.sc (.bool true))])⟩
theorem e77_ok : EntOk Tryz.prog Hd.G e77 := Hd.entry (l := []) (m := 1000000) Hd.none (by kernel_rfl) (by kernel_rfl)
def e78 : Ent := ⟨152, [k0, (.sc (.int .i64 (.ofNat 295)))], none, (.tup [(.agg [(.sc (.int .i64 (.ofNat 5))), k5, (.sc (.int .i64 (.ofNat 295)))]), (.sc (.bool true))])⟩
theorem e78_ok : EntOk Tryz.prog Hd.G e78 := Hd.entry (l := []) (m := 1000000) Hd.none (by kernel_rfl) (by kernel_rfl)
def e79 : Ent := ⟨152, [k0, (.sc (.int .i64 (.ofNat 316)))], none, (.tup [(.agg [(.sc (.int .i64 (.ofNat 6))), (strL [59]), (.sc (.int .i64 (.ofNat 316)))]), (.sc (.bool true))])⟩
theorem e79_ok : EntOk Tryz.prog Hd.G e79 := Hd.entry (l := []) (m := 1000000) Hd.none (by kernel_rfl) (by kernel_rfl)
def e80 : Ent := ⟨152, [k0, (.sc (.int .i64 (.ofNat 333)))], none, (.tup [(.agg [(.sc (.int .i64 (.ofNat 6))), (strL [59]), (.sc (.int .i64 (.ofNat 333)))]), (.sc (.bool true))])⟩
theorem e80_ok : EntOk Tryz.prog Hd.G e80 := Hd.entry (l := []) (m := 1000000) Hd.none (by kernel_rfl) (by kernel_rfl)
def e81 : Ent := ⟨115, [k0], none, (.tup [k6, (.sc (.int .i64 (.ofNat 0))), (.sc (.int .i64 (.ofNat 0)))])⟩
theorem e81_ok : EntOk Tryz.prog Hd.G e81 := Hd.entry (l := [e0, e1, e2, e3, e4, e5, e6, e7, e8, e9, e10, e11, e12, e13, e14, e15, e16, e17, e18, e19, e20, e21, e22, e23, e24, e25, e26, e27, e28, e29, e30, e31, e32, e33, e34, e35, e36, e37, e38, e39, e40, e41, e42, e43, e44, e45, e46, e47, e48, e49, e50, e51, e52, e53, e54, e55, e56, e57, e58, e59, e60, e61, e62, e63, e64, e65, e66, e67, e68, e69, e70, e71, e72, e73, e74, e75, e76, e77, e78, e79, e80]) (m := 1000000) (AllOk.cons e0_ok (AllOk.cons e1_ok (AllOk.cons e2_ok (AllOk.cons e3_ok (AllOk.cons e4_ok (AllOk.cons e5_ok (AllOk.cons e6_ok (AllOk.cons e7_ok (AllOk.cons e8_ok (AllOk.cons e9_ok (AllOk.cons e10_ok (AllOk.cons e11_ok (AllOk.cons e12_ok (AllOk.cons e13_ok (AllOk.cons e14_ok (AllOk.cons e15_ok (AllOk.cons e16_ok (AllOk.cons e17_ok (AllOk.cons e18_ok (AllOk.cons e19_ok (AllOk.cons e20_ok (AllOk.cons e21_ok (AllOk.cons e22_ok (AllOk.cons e23_ok (AllOk.cons e24_ok (AllOk.cons e25_ok (AllOk.cons e26_ok (AllOk.cons e27_ok (AllOk.cons e28_ok (AllOk.cons e29_ok (AllOk.cons e30_ok (AllOk.cons e31_ok (AllOk.cons e32_ok (AllOk.cons e33_ok (AllOk.cons e34_ok (AllOk.cons e35_ok (AllOk.cons e36_ok (AllOk.cons e37_ok (AllOk.cons e38_ok (AllOk.cons e39_ok (AllOk.cons e40_ok (AllOk.cons e41_ok (AllOk.cons e42_ok (AllOk.cons e43_ok (AllOk.cons e44_ok (AllOk.cons e45_ok (AllOk.cons e46_ok (AllOk.cons e47_ok (AllOk.cons e48_ok (AllOk.cons e49_ok (AllOk.cons e50_ok (AllOk.cons e51_ok (AllOk.cons e52_ok (AllOk.cons e53_ok (AllOk.cons e54_ok (AllOk.cons e55_ok (AllOk.cons e56_ok (AllOk.cons e57_ok (AllOk.cons e58_ok (AllOk.cons e59_ok (AllOk.cons e60_ok (AllOk.cons e61_ok (AllOk.cons e62_ok (AllOk.cons e63_ok (AllOk.cons e64_ok (AllOk.cons e65_ok (AllOk.cons e66_ok (AllOk.cons e67_ok (AllOk.cons e68_ok (AllOk.cons e69_ok (AllOk.cons e70_ok (AllOk.cons e71_ok (AllOk.cons e72_ok (AllOk.cons e73_ok (AllOk.cons e74_ok (AllOk.cons e75_ok (AllOk.cons e76_ok (AllOk.cons e77_ok (AllOk.cons e78_ok (AllOk.cons e79_ok (AllOk.cons e80_ok Hd.none))))))))))))))))))))))))))))))))))))))))))))))))))))))))))))))))))))))))))))))))) (by kernel_rfl) (by kernel_rfl)
end Go.Proofs.YtnijkdknnmgoeaaGreat
namespace Go.Proofs.YtnijkdknnmgoeaaGreat
open AI
set_option maxRecDepth 100000
set_option maxHeartbeats 4000000
def k7 : AV := strL [109, 105, 110, 117, 116, 101, 115]
def k8 : AV := strL [103, 114, 101, 97, 116, 101, 115, 116]
def k9 : AV := .sl .full 33 [(strL [102, 97, 99, 116]), (strL [108, 105, 110, 101]), k3, (strL [102, 111, 114]), (strL [114, 97, 110, 107]), (strL [102, 114, 111, 109]), (strL [116, 111]), (strL [107, 110, 111, 119, 110]), (strL [119, 104, 101, 110]), (strL [117, 110, 108, 101, 115, 115]), (strL [97, 109, 111, 117, 110, 116]), (strL [116, 114, 117, 116, 104]), (strL [110, 117, 109, 98, 101, 114]), k7, (strL [109, 105, 110]), (strL [101, 97, 114, 110]), (strL [100, 101, 100, 117, 99, 116]), (strL [102, 108, 111, 111, 114]), (strL [105, 110, 102, 111]), (strL [111, 114]), (strL [97, 110, 100]), (strL [110, 111, 116]), (strL [97, 116]), (strL [116, 114, 117, 101]), (strL [102, 97, 108, 115, 101]), (strL [97, 114, 116]), k2, (strL [100, 97, 121]), (strL [109, 111, 110, 116, 104]), (strL [121, 101, 97, 114]), (strL [108, 101, 97, 115, 116]), k8, (strL [116, 97, 98, 108, 101])]
def k10 : AV := .sl .full 2 [(.sc (.int .i64 (.ofNat 12))), (strL [97]), (strL []), (.sc (.int .i64 (.ofNat 0))), (.sc (.int .i64 (.ofNat 0))), (.sc (.int .i64 (.ofNat 0))), (.sc (.int .i64 (.ofNat 0))), (.sc (.int .i64 (.ofNat 0))), (.sl .full 0 []), (.sl .full 0 []), (.sc (.int .i64 (.ofNat 99))), (.sc (.int .i64 (.ofNat 11))), (strL []), (strL [110, 117, 109, 98, 101, 114]), (.sc (.int .i64 (.ofNat 3))), (.sc (.int .i64 (.ofNat 0))), (.sc (.int .i64 (.ofNat 0))), (.sc (.int .i64 (.ofNat 0))), (.sc (.int .i64 (.ofNat 0))), (.sl .full 0 []), (.sl .full 0 []), (.sc (.int .i64 (.ofNat 104)))]
def k11 : AV := .sl .full 2 [(.sc (.int .i64 (.ofNat 11))), (strL []), (strL [69, 85, 82]), (.sc (.int .i64 (.ofNat 100))), (.sc (.int .i64 (.ofNat 0))), (.sc (.int .i64 (.ofNat 0))), (.sc (.int .i64 (.ofNat 0))), (.sc (.int .i64 (.ofNat 0))), (.sl .full 0 []), (.sl .full 0 []), (.sc (.int .i64 (.ofNat 114))), (.sc (.int .i64 (.ofNat 12))), (strL [97]), (strL []), (.sc (.int .i64 (.ofNat 0))), (.sc (.int .i64 (.ofNat 0))), (.sc (.int .i64 (.ofNat 0))), (.sc (.int .i64 (.ofNat 0))), (.sc (.int .i64 (.ofNat 0))), (.sl .full 0 []), (.sl .full 0 []), (.sc (.int .i64 (.ofNat 125)))]
def k12 : AV := .sl .full 1 [(.sc (.int .i64 (.ofNat 16))), (strL [33, 61]), (strL []), (.sc (.int .i64 (.ofNat 0))), (.sc (.int .i64 (.ofNat 0))), (.sc (.int .i64 (.ofNat 0))), (.sc (.int .i64 (.ofNat 0))), (.sc (.int .i64 (.ofNat 0))), (.sl .full 0 []), k10, (.sc (.int .i64 (.ofNat 99)))]
def k13 : AV := .sl .full 1 [(.sc (.int .i64 (.ofNat 16))), (strL [42]), (strL []), (.sc (.int .i64 (.ofNat 0))), (.sc (.int .i64 (.ofNat 0))), (.sc (.int .i64 (.ofNat 0))), (.sc (.int .i64 (.ofNat 0))), (.sc (.int .i64 (.ofNat 0))), (.sl .full 0 []), k11, (.sc (.int .i64 (.ofNat 114)))]
def k14 : AV := .sl .lost 2 [(.sc (.int .i64 (.ofNat 6))), (strL []), (strL []), (.sc (.int .i64 (.ofNat 0))), (.sc (.int .i64 (.ofNat 0))), (.sc (.int .i64 (.ofNat 0))), (.sc (.int .i64 (.ofNat 0))), (.sc (.int .i64 (.ofNat 0))), (.sl .full 0 []), k12, (.sc (.int .i64 (.ofNat 94))), (.sc (.int .i64 (.ofNat 8))), (strL []), (strL []), (.sc (.int .i64 (.ofNat 0))), (.sc (.int .i64 (.ofNat 0))), (.sc (.int .i64 (.ofNat 0))), (.sc (.int .i64 (.ofNat 0))), (.sc (.int .i64 (.ofNat 0))), (.sl .full 0 []), k13, (.sc (.int .i64 (.ofNat 107)))]
def k15 : AV := .sl .lost 3 [(.sc (.int .i64 (.ofNat 5))), (strL []), (strL []), (.sc (.int .i64 (.ofNat 0))), (.sc (.int .i64 (.ofNat 8766))), (.sc (.int .i64 (.ofNat 36525))), (.sc (.int .i64 (.ofNat 8766))), (.sc (.int .i64 (.ofNat 0))), (.sl .full 0 []), (.sl .full 0 []), (.sc (.int .i64 (.ofNat 52))), (.sc (.int .i64 (.ofNat 6))), (strL []), (strL []), (.sc (.int .i64 (.ofNat 0))), (.sc (.int .i64 (.ofNat 0))), (.sc (.int .i64 (.ofNat 0))), (.sc (.int .i64 (.ofNat 0))), (.sc (.int .i64 (.ofNat 0))), (.sl .full 0 []), k12, (.sc (.int .i64 (.ofNat 94))), (.sc (.int .i64 (.ofNat 8))), (strL []), (strL []), (.sc (.int .i64 (.ofNat 0))), (.sc (.int .i64 (.ofNat 0))), (.sc (.int .i64 (.ofNat 0))), (.sc (.int .i64 (.ofNat 0))), (.sc (.int .i64 (.ofNat 0))), (.sl .full 0 []), k13, (.sc (.int .i64 (.ofNat 107)))]
def e82 : Ent := ⟨104, [k9, (strL [97])], none, (.sc (.bool false))⟩
theorem e82_ok : EntOk Tryz.prog Hd.G e82 := Hd.entry (l := []) (m := 1000000) Hd.none (by kernel_rfl) (by kernel_rfl)
def e83 : Ent := ⟨117, [], (some ([k6, (.sc (.int .i64 (.ofNat 0))), (.sc (.int .i64 (.ofNat 336))), (.sc (.int .i64 (.ofNat 0))), (.sc (.int .i64 (.ofNat 0)))], [k6, (.sc (.int .i64 (.ofNat 5))), (.sc (.int .i64 (.ofNat 336))), (.sc (.int .i64 (.ofNat 0))), (.sc (.int .i64 (.ofNat 0)))])), (.agg [(.sc (.int .i64 (.ofNat 2))), (strL [97]), (strL [110, 117, 109, 98, 101, 114]), (.sc (.int .i64 (.ofNat 0))), (.sc (.int .i64 (.ofNat 0))), (.sc (.int .i64 (.ofNat 0))), (.sc (.int .i64 (.ofNat 0))), (.sc (.int .i64 (.ofNat 0))), (.sl .full 0 []), (.sl .full 0 []), (.sc (.int .i64 (.ofNat 0)))])⟩
theorem e83_ok : EntOk Tryz.prog Hd.G e83 := Hd.entry (l := [e82]) (m := 1000000) (AllOk.cons e82_ok Hd.none) (by kernel_rfl) (by kernel_rfl)
def e84 : Ent := ⟨104, [k9, (strL [108])], none, (.sc (.bool false))⟩
theorem e84_ok : EntOk Tryz.prog Hd.G e84 := Hd.entry (l := []) (m := 1000000) Hd.none (by kernel_rfl) (by kernel_rfl)
def e85 : Ent := ⟨117, [], (some ([k6, (.sc (.int .i64 (.ofNat 5))), (.sc (.int .i64 (.ofNat 336))), (.sc (.int .i64 (.ofNat 0))), (.sc (.int .i64 (.ofNat 0)))], [k6, (.sc (.int .i64 (.ofNat 11))), (.sc (.int .i64 (.ofNat 336))), (.sc (.int .i64 (.ofNat 0))), (.sc (.int .i64 (.ofNat 0)))])), (.agg [(.sc (.int .i64 (.ofNat 3))), (strL [108]), (strL [69, 85, 82]), (.sc (.int .i64 (.ofNat 1))), (.sc (.int .i64 (.ofNat 0))), (.sc (.int .i64 (.ofNat 0))), (.sc (.int .i64 (.ofNat 0))), (.sc (.int .i64 (.ofNat 0))), (.sl .full 0 []), (.sl .full 0 []), (.sc (.int .i64 (.ofNat 17)))])⟩
theorem e85_ok : EntOk Tryz.prog Hd.G e85 := Hd.entry (l := [e82, e84]) (m := 1000000) (AllOk.cons e82_ok (AllOk.cons e84_ok Hd.none)) (by kernel_rfl) (by kernel_rfl)
def e86 : Ent := ⟨199, [k1], none, (.tup [(.sc (.int .i64 (.ofNat 8766))), (.sc (.int .i64 (.ofNat 0)))])⟩
theorem e86_ok : EntOk Tryz.prog Hd.G e86 := Hd.entry (l := []) (m := 1000000) Hd.none (by kernel_rfl) (by kernel_rfl)
def e87 : Ent := ⟨159, [], (some ([k6, (.sc (.int .i64 (.ofNat 15))), (.sc (.int .i64 (.ofNat 336))), (.sc (.int .i64 (.ofNat 0))), (.sc (.int .i64 (.ofNat 0)))], [k6, (.sc (.int .i64 (.ofNat 21))), (.sc (.int .i64 (.ofNat 336))), (.sc (.int .i64 (.ofNat 0))), (.sc (.int .i64 (.ofNat 0)))])), (.agg [(.sc (.int .i64 (.ofNat 5))), (strL []), (strL []), (.sc (.int .i64 (.ofNat 0))), (.sc (.int .i64 (.ofNat 8766))), (.sc (.int .i64 (.ofNat 36525))), (.sc (.int .i64 (.ofNat 8766))), (.sc (.int .i64 (.ofNat 0))), (.sl .full 0 []), (.sl .full 0 []), (.sc (.int .i64 (.ofNat 52)))])⟩
theorem e87_ok : EntOk Tryz.prog Hd.G e87 := Hd.entry (l := [e86]) (m := 1000000) (AllOk.cons e86_ok Hd.none) (by kernel_rfl) (by kernel_rfl)
def e88 : Ent := ⟨187, [], (some ([k6, (.sc (.int .i64 (.ofNat 23))), (.sc (.int .i64 (.ofNat 336))), (.sc (.int .i64 (.ofNat 0))), (.sc (.int .i64 (.ofNat 0)))], [k6, (.sc (.int .i64 (.ofNat 26))), (.sc (.int .i64 (.ofNat 336))), (.sc (.int .i64 (.ofNat 0))), (.sc (.int .i64 (.ofNat 0)))])), (.agg [(.sc (.int .i64 (.ofNat 16))), (strL [33, 61]), (strL []), (.sc (.int .i64 (.ofNat 0))), (.sc (.int .i64 (.ofNat 0))), (.sc (.int .i64 (.ofNat 0))), (.sc (.int .i64 (.ofNat 0))), (.sc (.int .i64 (.ofNat 0))), (.sl .full 0 []), k10, (.sc (.int .i64 (.ofNat 99)))])⟩
theorem e88_ok : EntOk Tryz.prog Hd.G e88 := Hd.entry (l := [e82, e84]) (m := 1000000) (AllOk.cons e82_ok (AllOk.cons e84_ok Hd.none)) (by kernel_rfl) (by kernel_rfl)
def e89 : Ent := ⟨187, [], (some ([k6, (.sc (.int .i64 (.ofNat 28))), (.sc (.int .i64 (.ofNat 336))), (.sc (.int .i64 (.ofNat 0))), (.sc (.int .i64 (.ofNat 0)))], [k6, (.sc (.int .i64 (.ofNat 32))), (.sc (.int .i64 (.ofNat 336))), (.sc (.int .i64 (.ofNat 0))), (.sc (.int .i64 (.ofNat 0)))])), (.agg [(.sc (.int .i64 (.ofNat 16))), (strL [42]), (strL []), (.sc (.int .i64 (.ofNat 0))), (.sc (.int .i64 (.ofNat 0))), (.sc (.int .i64 (.ofNat 0))), (.sc (.int .i64 (.ofNat 0))), (.sc (.int .i64 (.ofNat 0))), (.sl .full 0 []), k11, (.sc (.int .i64 (.ofNat 114)))])⟩
theorem e89_ok : EntOk Tryz.prog Hd.G e89 := Hd.entry (l := [e82, e84]) (m := 1000000) (AllOk.cons e82_ok (AllOk.cons e84_ok Hd.none)) (by kernel_rfl) (by kernel_rfl)
def e90 : Ent := ⟨160, [], (some ([k6, (.sc (.int .i64 (.ofNat 21))), (.sc (.int .i64 (.ofNat 336))), (.sc (.int .i64 (.ofNat 0))), (.sc (.int .i64 (.ofNat 0)))], [k6, (.sc (.int .i64 (.ofNat 34))), (.sc (.int .i64 (.ofNat 336))), (.sc (.int .i64 (.ofNat 0))), (.sc (.int .i64 (.ofNat 0)))])), k14⟩
theorem e90_ok : EntOk Tryz.prog Hd.G e90 := Hd.entry (l := [e88, e89]) (m := 1000000) (AllOk.cons e88_ok (AllOk.cons e89_ok Hd.none)) (by kernel_rfl) (by kernel_rfl)
def e91 : Ent := ⟨117, [], (some ([k6, (.sc (.int .i64 (.ofNat 11))), (.sc (.int .i64 (.ofNat 336))), (.sc (.int .i64 (.ofNat 0))), (.sc (.int .i64 (.ofNat 0)))], [k6, (.sc (.int .i64 (.ofNat 34))), (.sc (.int .i64 (.ofNat 336))), (.sc (.int .i64 (.ofNat 0))), (.sc (.int .i64 (.ofNat 0)))])), (.agg [(.sc (.int .i64 (.ofNat 4))), (strL [108]), (strL []), (.sc (.int .i64 (.ofNat 1))), (.sc (.int .i64 (.ofNat 0))), (.sc (.int .i64 (.ofNat 0))), (.sc (.int .i64 (.ofNat 0))), (.sc (.int .i64 (.ofNat 0))), (.sl .full 0 []), k15, (.sc (.int .i64 (.ofNat 36)))])⟩
theorem e91_ok : EntOk Tryz.prog Hd.G e91 := Hd.entry (l := [e82, e84, e86, e87, e90]) (m := 1000000) (AllOk.cons e82_ok (AllOk.cons e84_ok (AllOk.cons e86_ok (AllOk.cons e87_ok (AllOk.cons e90_ok Hd.none))))) (by kernel_rfl) (by kernel_rfl)
def e92 : Ent := ⟨199, [k4], none, (.tup [(.sc (.int .i64 (.ofNat 9132))), (.sc (.int .i64 (.ofNat 0)))])⟩
theorem e92_ok : EntOk Tryz.prog Hd.G e92 := Hd.entry (l := []) (m := 1000000) Hd.none (by kernel_rfl) (by kernel_rfl)
end Go.Proofs.YtnijkdknnmgoeaaGreat
namespace Go.Proofs.YtnijkdknnmgoeaaGreat
open AI
set_option maxRecDepth 100000
set_option maxHeartbeats 4000000
def k16 : AV := .sl .full 2 [(.sc (.int .i64 (.ofNat 14))), k2, (strL []), (.sc (.int .i64 (.ofNat 0))), (.sc (.int .i64 (.ofNat 0))), (.sc (.int .i64 (.ofNat 0))), (.sc (.int .i64 (.ofNat 0))), (.sc (.int .i64 (.ofNat 0))), (.sl .full 0 []), (.sl .full 0 []), (.sc (.int .i64 (.ofNat 207))), (.sc (.int .i64 (.ofNat 11))), (strL []), (strL [110, 117, 109, 98, 101, 114]), (.sc (.int .i64 (.ofNat 1))), (.sc (.int .i64 (.ofNat 0))), (.sc (.int .i64 (.ofNat 0))), (.sc (.int .i64 (.ofNat 0))), (.sc (.int .i64 (.ofNat 0))), (.sl .full 0 []), (.sl .full 0 []), (.sc (.int .i64 (.ofNat 218)))]
def k17 : AV := .sl .full 2 [(.sc (.int .i64 (.ofNat 12))), (strL [97]), (strL []), (.sc (.int .i64 (.ofNat 0))), (.sc (.int .i64 (.ofNat 0))), (.sc (.int .i64 (.ofNat 0))), (.sc (.int .i64 (.ofNat 0))), (.sc (.int .i64 (.ofNat 0))), (.sl .full 0 []), (.sl .full 0 []), (.sc (.int .i64 (.ofNat 226))), (.sc (.int .i64 (.ofNat 11))), (strL []), (strL [110, 117, 109, 98, 101, 114]), (.sc (.int .i64 (.ofNat 3))), (.sc (.int .i64 (.ofNat 0))), (.sc (.int .i64 (.ofNat 0))), (.sc (.int .i64 (.ofNat 0))), (.sc (.int .i64 (.ofNat 0))), (.sl .full 0 []), (.sl .full 0 []), (.sc (.int .i64 (.ofNat 231)))]
def k18 : AV := .sl .full 1 [(.sc (.int .i64 (.ofNat 16))), (strL [61, 61]), (strL []), (.sc (.int .i64 (.ofNat 0))), (.sc (.int .i64 (.ofNat 0))), (.sc (.int .i64 (.ofNat 0))), (.sc (.int .i64 (.ofNat 0))), (.sc (.int .i64 (.ofNat 0))), (.sl .full 0 []), k16, (.sc (.int .i64 (.ofNat 207)))]
def k19 : AV := .sl .full 1 [(.sc (.int .i64 (.ofNat 16))), (strL [33, 61]), (strL []), (.sc (.int .i64 (.ofNat 0))), (.sc (.int .i64 (.ofNat 0))), (.sc (.int .i64 (.ofNat 0))), (.sc (.int .i64 (.ofNat 0))), (.sc (.int .i64 (.ofNat 0))), (.sl .full 0 []), k17, (.sc (.int .i64 (.ofNat 226)))]
def k20 : AV := .sl .full 1 [(.sc (.int .i64 (.ofNat 13))), (strL []), (strL []), (.sc (.int .i64 (.ofNat 3))), (.sc (.int .i64 (.ofNat 0))), (.sc (.int .i64 (.ofNat 0))), (.sc (.int .i64 (.ofNat 0))), (.sc (.int .i64 (.ofNat 0))), (.sl .full 0 []), (.sl .full 0 []), (.sc (.int .i64 (.ofNat 241)))]
def k21 : AV := .sl .lost 3 [(.sc (.int .i64 (.ofNat 6))), (strL []), (strL []), (.sc (.int .i64 (.ofNat 0))), (.sc (.int .i64 (.ofNat 0))), (.sc (.int .i64 (.ofNat 0))), (.sc (.int .i64 (.ofNat 0))), (.sc (.int .i64 (.ofNat 0))), (.sl .full 0 []), k18, (.sc (.int .i64 (.ofNat 202))), (.sc (.int .i64 (.ofNat 6))), (strL []), (strL []), (.sc (.int .i64 (.ofNat 0))), (.sc (.int .i64 (.ofNat 0))), (.sc (.int .i64 (.ofNat 0))), (.sc (.int .i64 (.ofNat 0))), (.sc (.int .i64 (.ofNat 0))), (.sl .full 0 []), k19, (.sc (.int .i64 (.ofNat 221))), (.sc (.int .i64 (.ofNat 8))), (strL []), (strL []), (.sc (.int .i64 (.ofNat 0))), (.sc (.int .i64 (.ofNat 0))), (.sc (.int .i64 (.ofNat 0))), (.sc (.int .i64 (.ofNat 0))), (.sc (.int .i64 (.ofNat 0))), (.sl .full 0 []), k20, (.sc (.int .i64 (.ofNat 234)))]
def k22 : AV := .sl .lost 4 [(.sc (.int .i64 (.ofNat 5))), (strL []), (strL []), (.sc (.int .i64 (.ofNat 0))), (.sc (.int .i64 (.ofNat 8766))), (.sc (.int .i64 (.ofNat 9132))), (.sc (.int .i64 (.ofNat 8766))), (.sc (.int .i64 (.ofNat 0))), (.sl .full 0 []), (.sl .full 0 []), (.sc (.int .i64 (.ofNat 146))), (.sc (.int .i64 (.ofNat 6))), (strL []), (strL []), (.sc (.int .i64 (.ofNat 0))), (.sc (.int .i64 (.ofNat 0))), (.sc (.int .i64 (.ofNat 0))), (.sc (.int .i64 (.ofNat 0))), (.sc (.int .i64 (.ofNat 0))), (.sl .full 0 []), k18, (.sc (.int .i64 (.ofNat 202))), (.sc (.int .i64 (.ofNat 6))), (strL []), (strL []), (.sc (.int .i64 (.ofNat 0))), (.sc (.int .i64 (.ofNat 0))), (.sc (.int .i64 (.ofNat 0))), (.sc (.int .i64 (.ofNat 0))), (.sc (.int .i64 (.ofNat 0))), (.sl .full 0 []), k19, (.sc (.int .i64 (.ofNat 221))), (.sc (.int .i64 (.ofNat 8))), (strL []), (strL []), (.sc (.int .i64 (.ofNat 0))), (.sc (.int .i64 (.ofNat 0))), (.sc (.int .i64 (.ofNat 0))), (.sc (.int .i64 (.ofNat 0))), (.sc (.int .i64 (.ofNat 0))), (.sl .full 0 []), k20, (.sc (.int .i64 (.ofNat 234)))]
def e93 : Ent := ⟨159, [], (some ([k6, (.sc (.int .i64 (.ofNat 38))), (.sc (.int .i64 (.ofNat 336))), (.sc (.int .i64 (.ofNat 0))), (.sc (.int .i64 (.ofNat 0)))], [k6, (.sc (.int .i64 (.ofNat 46))), (.sc (.int .i64 (.ofNat 336))), (.sc (.int .i64 (.ofNat 0))), (.sc (.int .i64 (.ofNat 0)))])), (.agg [(.sc (.int .i64 (.ofNat 5))), (strL []), (strL []), (.sc (.int .i64 (.ofNat 0))), (.sc (.int .i64 (.ofNat 8766))), (.sc (.int .i64 (.ofNat 9132))), (.sc (.int .i64 (.ofNat 8766))), (.sc (.int .i64 (.ofNat 0))), (.sl .full 0 []), (.sl .full 0 []), (.sc (.int .i64 (.ofNat 146)))])⟩
theorem e93_ok : EntOk Tryz.prog Hd.G e93 := Hd.entry (l := [e86, e92]) (m := 1000000) (AllOk.cons e86_ok (AllOk.cons e92_ok Hd.none)) (by kernel_rfl) (by kernel_rfl)
def e94 : Ent := ⟨104, [k9, k2], none, (.sc (.bool true))⟩
theorem e94_ok : EntOk Tryz.prog Hd.G e94 := Hd.entry (l := []) (m := 1000000) Hd.none (by kernel_rfl) (by kernel_rfl)
def e95 : Ent := ⟨187, [], (some ([k6, (.sc (.int .i64 (.ofNat 48))), (.sc (.int .i64 (.ofNat 336))), (.sc (.int .i64 (.ofNat 0))), (.sc (.int .i64 (.ofNat 0)))], [k6, (.sc (.int .i64 (.ofNat 51))), (.sc (.int .i64 (.ofNat 336))), (.sc (.int .i64 (.ofNat 0))), (.sc (.int .i64 (.ofNat 0)))])), (.agg [(.sc (.int .i64 (.ofNat 16))), (strL [61, 61]), (strL []), (.sc (.int .i64 (.ofNat 0))), (.sc (.int .i64 (.ofNat 0))), (.sc (.int .i64 (.ofNat 0))), (.sc (.int .i64 (.ofNat 0))), (.sc (.int .i64 (.ofNat 0))), (.sl .full 0 []), k16, (.sc (.int .i64 (.ofNat 207)))])⟩
theorem e95_ok : EntOk Tryz.prog Hd.G e95 := Hd.entry (l := [e82, e84, e94]) (m := 1000000) (AllOk.cons e82_ok (AllOk.cons e84_ok (AllOk.cons e94_ok Hd.none))) (by kernel_rfl) (by kernel_rfl)
def e96 : Ent := ⟨187, [], (some ([k6, (.sc (.int .i64 (.ofNat 53))), (.sc (.int .i64 (.ofNat 336))), (.sc (.int .i64 (.ofNat 0))), (.sc (.int .i64 (.ofNat 0)))], [k6, (.sc (.int .i64 (.ofNat 56))), (.sc (.int .i64 (.ofNat 336))), (.sc (.int .i64 (.ofNat 0))), (.sc (.int .i64 (.ofNat 0)))])), (.agg [(.sc (.int .i64 (.ofNat 16))), (strL [33, 61]), (strL []), (.sc (.int .i64 (.ofNat 0))), (.sc (.int .i64 (.ofNat 0))), (.sc (.int .i64 (.ofNat 0))), (.sc (.int .i64 (.ofNat 0))), (.sc (.int .i64 (.ofNat 0))), (.sl .full 0 []), k17, (.sc (.int .i64 (.ofNat 226)))])⟩
theorem e96_ok : EntOk Tryz.prog Hd.G e96 := Hd.entry (l := [e82, e84, e94]) (m := 1000000) (AllOk.cons e82_ok (AllOk.cons e84_ok (AllOk.cons e94_ok Hd.none))) (by kernel_rfl) (by kernel_rfl)
def e97 : Ent := ⟨104, [k9, (strL [97, 114, 116])], none, (.sc (.bool true))⟩
theorem e97_ok : EntOk Tryz.prog Hd.G e97 := Hd.entry (l := []) (m := 1000000) Hd.none (by kernel_rfl) (by kernel_rfl)
def e98 : Ent := ⟨187, [], (some ([k6, (.sc (.int .i64 (.ofNat 58))), (.sc (.int .i64 (.ofNat 336))), (.sc (.int .i64 (.ofNat 0))), (.sc (.int .i64 (.ofNat 0)))], [k6, (.sc (.int .i64 (.ofNat 60))), (.sc (.int .i64 (.ofNat 336))), (.sc (.int .i64 (.ofNat 0))), (.sc (.int .i64 (.ofNat 0)))])), (.agg [(.sc (.int .i64 (.ofNat 13))), (strL []), (strL []), (.sc (.int .i64 (.ofNat 3))), (.sc (.int .i64 (.ofNat 0))), (.sc (.int .i64 (.ofNat 0))), (.sc (.int .i64 (.ofNat 0))), (.sc (.int .i64 (.ofNat 0))), (.sl .full 0 []), (.sl .full 0 []), (.sc (.int .i64 (.ofNat 241)))])⟩
theorem e98_ok : EntOk Tryz.prog Hd.G e98 := Hd.entry (l := [e82, e84, e94, e97]) (m := 1000000) (AllOk.cons e82_ok (AllOk.cons e84_ok (AllOk.cons e94_ok (AllOk.cons e97_ok Hd.none)))) (by kernel_rfl) (by kernel_rfl)
def e99 : Ent := ⟨160, [], (some ([k6, (.sc (.int .i64 (.ofNat 46))), (.sc (.int .i64 (.ofNat 336))), (.sc (.int .i64 (.ofNat 0))), (.sc (.int .i64 (.ofNat 0)))], [k6, (.sc (.int .i64 (.ofNat 62))), (.sc (.int .i64 (.ofNat 336))), (.sc (.int .i64 (.ofNat 0))), (.sc (.int .i64 (.ofNat 0)))])), k21⟩
theorem e99_ok : EntOk Tryz.prog Hd.G e99 := Hd.entry (l := [e88, e89, e95, e96, e98]) (m := 1000000) (AllOk.cons e88_ok (AllOk.cons e89_ok (AllOk.cons e95_ok (AllOk.cons e96_ok (AllOk.cons e98_ok Hd.none))))) (by kernel_rfl) (by kernel_rfl)
def e100 : Ent := ⟨117, [], (some ([k6, (.sc (.int .i64 (.ofNat 34))), (.sc (.int .i64 (.ofNat 336))), (.sc (.int .i64 (.ofNat 0))), (.sc (.int .i64 (.ofNat 0)))], [k6, (.sc (.int .i64 (.ofNat 62))), (.sc (.int .i64 (.ofNat 336))), (.sc (.int .i64 (.ofNat 0))), (.sc (.int .i64 (.ofNat 0)))])), (.agg [(.sc (.int .i64 (.ofNat 4))), (strL [108]), (strL []), (.sc (.int .i64 (.ofNat 2))), (.sc (.int .i64 (.ofNat 0))), (.sc (.int .i64 (.ofNat 0))), (.sc (.int .i64 (.ofNat 0))), (.sc (.int .i64 (.ofNat 0))), (.sl .full 0 []), k22, (.sc (.int .i64 (.ofNat 130)))])⟩
theorem e100_ok : EntOk Tryz.prog Hd.G e100 := Hd.entry (l := [e82, e84, e86, e87, e90, e92, e93, e94, e97, e99]) (m := 1000000) (AllOk.cons e82_ok (AllOk.cons e84_ok (AllOk.cons e86_ok (AllOk.cons e87_ok (AllOk.cons e90_ok (AllOk.cons e92_ok (AllOk.cons e93_ok (AllOk.cons e94_ok (AllOk.cons e97_ok (AllOk.cons e99_ok Hd.none)))))))))) (by kernel_rfl) (by kernel_rfl)
def e101 : Ent := ⟨199, [k5], none, (.tup [(.sc (.int .i64 (.ofNat 8797))), (.sc (.int .i64 (.ofNat 0)))])⟩
theorem e101_ok : EntOk Tryz.prog Hd.G e101 := Hd.entry (l := []) (m := 1000000) Hd.none (by kernel_rfl) (by kernel_rfl)
def e102 : Ent := ⟨159, [], (some ([k6, (.sc (.int .i64 (.ofNat 66))), (.sc (.int .i64 (.ofNat 336))), (.sc (.int .i64 (.ofNat 0))), (.sc (.int .i64 (.ofNat 0)))], [k6, (.sc (.int .i64 (.ofNat 72))), (.sc (.int .i64 (.ofNat 336))), (.sc (.int .i64 (.ofNat 0))), (.sc (.int .i64 (.ofNat 0)))])), (.agg [(.sc (.int .i64 (.ofNat 5))), (strL []), (strL []), (.sc (.int .i64 (.ofNat 0))), (.sc (.int .i64 (.ofNat 8766))), (.sc (.int .i64 (.ofNat 36525))), (.sc (.int .i64 (.ofNat 8797))), (.sc (.int .i64 (.ofNat 0))), (.sl .full 0 []), (.sl .full 0 []), (.sc (.int .i64 (.ofNat 266)))])⟩
theorem e102_ok : EntOk Tryz.prog Hd.G e102 := Hd.entry (l := [e86, e92, e101]) (m := 1000000) (AllOk.cons e86_ok (AllOk.cons e92_ok (AllOk.cons e101_ok Hd.none))) (by kernel_rfl) (by kernel_rfl)
def e103 : Ent := ⟨187, [], (some ([k6, (.sc (.int .i64 (.ofNat 77))), (.sc (.int .i64 (.ofNat 336))), (.sc (.int .i64 (.ofNat 0))), (.sc (.int .i64 (.ofNat 0)))], [k6, (.sc (.int .i64 (.ofNat 79))), (.sc (.int .i64 (.ofNat 336))), (.sc (.int .i64 (.ofNat 0))), (.sc (.int .i64 (.ofNat 0)))])), (.agg [(.sc (.int .i64 (.ofNat 11))), (strL []), (strL [69, 85, 82]), (.sc (.int .i64 (.ofNat 0))), (.sc (.int .i64 (.ofNat 0))), (.sc (.int .i64 (.ofNat 0))), (.sc (.int .i64 (.ofNat 0))), (.sc (.int .i64 (.ofNat 0))), (.sl .full 0 []), (.sl .full 0 []), (.sc (.int .i64 (.ofNat 325)))])⟩
theorem e103_ok : EntOk Tryz.prog Hd.G e103 := Hd.entry (l := [e82, e84, e94, e97]) (m := 1000000) (AllOk.cons e82_ok (AllOk.cons e84_ok (AllOk.cons e94_ok (AllOk.cons e97_ok Hd.none)))) (by kernel_rfl) (by kernel_rfl)
end Go.Proofs.YtnijkdknnmgoeaaGreat
namespace Go.Proofs.YtnijkdknnmgoeaaGreat
open AI
set_option maxRecDepth 100000
set_option maxHeartbeats 4000000
def k23 : AV := .sl .lost 1 [(.sc (.int .i64 (.ofNat 11))), (strL []), (strL [110, 117, 109, 98, 101, 114]), (.sc (.int .i64 (.ofNat 1))), (.sc (.int .i64 (.ofNat 0))), (.sc (.int .i64 (.ofNat 0))), (.sc (.int .i64 (.ofNat 0))), (.sc (.int .i64 (.ofNat 0))), (.sl .full 0 []), (.sl .full 0 []), (.sc (.int .i64 (.ofNat 315)))]
def k24 : AV := .sl .full 1 [(.sc (.int .i64 (.ofNat 11))), (strL []), (strL [69, 85, 82]), (.sc (.int .i64 (.ofNat 0))), (.sc (.int .i64 (.ofNat 0))), (.sc (.int .i64 (.ofNat 0))), (.sc (.int .i64 (.ofNat 0))), (.sc (.int .i64 (.ofNat 0))), (.sl .full 0 []), (.sl .full 0 []), (.sc (.int .i64 (.ofNat 325)))]
def k25 : AV := .sl .lost 2 [(.sc (.int .i64 (.ofNat 7))), (strL []), (strL []), (.sc (.int .i64 (.ofNat 0))), (.sc (.int .i64 (.ofNat 0))), (.sc (.int .i64 (.ofNat 0))), (.sc (.int .i64 (.ofNat 0))), (.sc (.int .i64 (.ofNat 0))), (.sl .full 0 []), k23, (.sc (.int .i64 (.ofNat 308))), (.sc (.int .i64 (.ofNat 8))), (strL []), (strL []), (.sc (.int .i64 (.ofNat 0))), (.sc (.int .i64 (.ofNat 0))), (.sc (.int .i64 (.ofNat 0))), (.sc (.int .i64 (.ofNat 0))), (.sc (.int .i64 (.ofNat 0))), (.sl .full 0 []), k24, (.sc (.int .i64 (.ofNat 318)))]
def k26 : AV := .sl .lost 3 [(.sc (.int .i64 (.ofNat 5))), (strL []), (strL []), (.sc (.int .i64 (.ofNat 0))), (.sc (.int .i64 (.ofNat 8766))), (.sc (.int .i64 (.ofNat 36525))), (.sc (.int .i64 (.ofNat 8797))), (.sc (.int .i64 (.ofNat 0))), (.sl .full 0 []), (.sl .full 0 []), (.sc (.int .i64 (.ofNat 266))), (.sc (.int .i64 (.ofNat 7))), (strL []), (strL []), (.sc (.int .i64 (.ofNat 0))), (.sc (.int .i64 (.ofNat 0))), (.sc (.int .i64 (.ofNat 0))), (.sc (.int .i64 (.ofNat 0))), (.sc (.int .i64 (.ofNat 0))), (.sl .full 0 []), k23, (.sc (.int .i64 (.ofNat 308))), (.sc (.int .i64 (.ofNat 8))), (strL []), (strL []), (.sc (.int .i64 (.ofNat 0))), (.sc (.int .i64 (.ofNat 0))), (.sc (.int .i64 (.ofNat 0))), (.sc (.int .i64 (.ofNat 0))), (.sc (.int .i64 (.ofNat 0))), (.sl .full 0 []), k24, (.sc (.int .i64 (.ofNat 318)))]
def k27 : AV := .sl .lost 5 [(.sc (.int .i64 (.ofNat 2))), (strL [97]), (strL [110, 117, 109, 98, 101, 114]), (.sc (.int .i64 (.ofNat 0))), (.sc (.int .i64 (.ofNat 0))), (.sc (.int .i64 (.ofNat 0))), (.sc (.int .i64 (.ofNat 0))), (.sc (.int .i64 (.ofNat 0))), (.sl .full 0 []), (.sl .full 0 []), (.sc (.int .i64 (.ofNat 0))), (.sc (.int .i64 (.ofNat 3))), (strL [108]), (strL [69, 85, 82]), (.sc (.int .i64 (.ofNat 1))), (.sc (.int .i64 (.ofNat 0))), (.sc (.int .i64 (.ofNat 0))), (.sc (.int .i64 (.ofNat 0))), (.sc (.int .i64 (.ofNat 0))), (.sl .full 0 []), (.sl .full 0 []), (.sc (.int .i64 (.ofNat 17))), (.sc (.int .i64 (.ofNat 4))), (strL [108]), (strL []), (.sc (.int .i64 (.ofNat 1))), (.sc (.int .i64 (.ofNat 0))), (.sc (.int .i64 (.ofNat 0))), (.sc (.int .i64 (.ofNat 0))), (.sc (.int .i64 (.ofNat 0))), (.sl .full 0 []), k15, (.sc (.int .i64 (.ofNat 36))), (.sc (.int .i64 (.ofNat 4))), (strL [108]), (strL []), (.sc (.int .i64 (.ofNat 2))), (.sc (.int .i64 (.ofNat 0))), (.sc (.int .i64 (.ofNat 0))), (.sc (.int .i64 (.ofNat 0))), (.sc (.int .i64 (.ofNat 0))), (.sl .full 0 []), k22, (.sc (.int .i64 (.ofNat 130))), (.sc (.int .i64 (.ofNat 4))), (strL [108]), (strL []), (.sc (.int .i64 (.ofNat 3))), (.sc (.int .i64 (.ofNat 0))), (.sc (.int .i64 (.ofNat 0))), (.sc (.int .i64 (.ofNat 0))), (.sc (.int .i64 (.ofNat 0))), (.sl .full 0 []), k26, (.sc (.int .i64 (.ofNat 250)))]
def k28 : AV := strL [108, 105, 110, 101, 32, 108, 32, 58, 32, 69, 85, 82, 32, 101, 97, 114, 110, 59, 32, 97, 114, 116, 105, 99, 108, 101, 32, 49, 32, 102, 111, 114, 32, 108, 32, 114, 97, 110, 107, 32, 48, 32, 102, 114, 111, 109, 32, 50, 48, 50, 52, 45, 48, 49, 45, 48, 49, 32, 107, 110, 111, 119, 110, 32, 50, 48, 50, 52, 45, 48, 49, 45, 48, 49, 32, 123, 32, 97, 109, 111, 117, 110, 116, 32, 49, 59, 32, 125]
def k29 : AV := .sl .lost 21 [(.sc (.int .i64 (.ofNat 1))), (strL [108, 105, 110, 101]), (.sc (.int .i64 (.ofNat 0))), (.sc (.int .i64 (.ofNat 1))), (strL [108]), (.sc (.int .i64 (.ofNat 5))), (.sc (.int .i64 (.ofNat 6))), (strL [58]), (.sc (.int .i64 (.ofNat 7))), (.sc (.int .i64 (.ofNat 2))), (strL [69, 85, 82]), (.sc (.int .i64 (.ofNat 9))), (.sc (.int .i64 (.ofNat 1))), (strL [101, 97, 114, 110]), (.sc (.int .i64 (.ofNat 13))), (.sc (.int .i64 (.ofNat 6))), (strL [59]), (.sc (.int .i64 (.ofNat 17))), (.sc (.int .i64 (.ofNat 1))), k3, (.sc (.int .i64 (.ofNat 19))), (.sc (.int .i64 (.ofNat 3))), (strL [49]), (.sc (.int .i64 (.ofNat 27))), (.sc (.int .i64 (.ofNat 1))), (strL [102, 111, 114]), (.sc (.int .i64 (.ofNat 29))), (.sc (.int .i64 (.ofNat 1))), (strL [108]), (.sc (.int .i64 (.ofNat 33))), (.sc (.int .i64 (.ofNat 1))), (strL [114, 97, 110, 107]), (.sc (.int .i64 (.ofNat 35))), (.sc (.int .i64 (.ofNat 3))), (strL [48]), (.sc (.int .i64 (.ofNat 40))), (.sc (.int .i64 (.ofNat 1))), (strL [102, 114, 111, 109]), (.sc (.int .i64 (.ofNat 42))), (.sc (.int .i64 (.ofNat 5))), k1, (.sc (.int .i64 (.ofNat 47))), (.sc (.int .i64 (.ofNat 1))), (strL [107, 110, 111, 119, 110]), (.sc (.int .i64 (.ofNat 58))), (.sc (.int .i64 (.ofNat 5))), k1, (.sc (.int .i64 (.ofNat 64))), (.sc (.int .i64 (.ofNat 6))), (strL [123]), (.sc (.int .i64 (.ofNat 75))), (.sc (.int .i64 (.ofNat 1))), (strL [97, 109, 111, 117, 110, 116]), (.sc (.int .i64 (.ofNat 77))), (.sc (.int .i64 (.ofNat 3))), (strL [49]), (.sc (.int .i64 (.ofNat 84))), (.sc (.int .i64 (.ofNat 6))), (strL [59]), (.sc (.int .i64 (.ofNat 85))), (.sc (.int .i64 (.ofNat 6))), (strL [125]), (.sc (.int .i64 (.ofNat 87)))]
def k30 : AV := .sl .full 1 [(.sc (.int .i64 (.ofNat 11))), (strL []), (strL [110, 117, 109, 98, 101, 114]), (.sc (.int .i64 (.ofNat 1))), (.sc (.int .i64 (.ofNat 0))), (.sc (.int .i64 (.ofNat 0))), (.sc (.int .i64 (.ofNat 0))), (.sc (.int .i64 (.ofNat 0))), (.sl .full 0 []), (.sl .full 0 []), (.sc (.int .i64 (.ofNat 84)))]
def k31 : AV := .sl .lost 1 [(.sc (.int .i64 (.ofNat 8))), (strL []), (strL []), (.sc (.int .i64 (.ofNat 0))), (.sc (.int .i64 (.ofNat 0))), (.sc (.int .i64 (.ofNat 0))), (.sc (.int .i64 (.ofNat 0))), (.sc (.int .i64 (.ofNat 0))), (.sl .full 0 []), k30, (.sc (.int .i64 (.ofNat 77)))]
def k32 : AV := .sl .lost 2 [(.sc (.int .i64 (.ofNat 5))), (strL []), (strL []), (.sc (.int .i64 (.ofNat 0))), (.sc (.int .i64 (.ofNat 8766))), (.sc (.int .i64 (.ofNat 36525))), (.sc (.int .i64 (.ofNat 8766))), (.sc (.int .i64 (.ofNat 0))), (.sl .full 0 []), (.sl .full 0 []), (.sc (.int .i64 (.ofNat 35))), (.sc (.int .i64 (.ofNat 8))), (strL []), (strL []), (.sc (.int .i64 (.ofNat 0))), (.sc (.int .i64 (.ofNat 0))), (.sc (.int .i64 (.ofNat 0))), (.sc (.int .i64 (.ofNat 0))), (.sc (.int .i64 (.ofNat 0))), (.sl .full 0 []), k30, (.sc (.int .i64 (.ofNat 77)))]
def e104 : Ent := ⟨160, [], (some ([k6, (.sc (.int .i64 (.ofNat 72))), (.sc (.int .i64 (.ofNat 336))), (.sc (.int .i64 (.ofNat 0))), (.sc (.int .i64 (.ofNat 0)))], [k6, (.sc (.int .i64 (.ofNat 81))), (.sc (.int .i64 (.ofNat 336))), (.sc (.int .i64 (.ofNat 0))), (.sc (.int .i64 (.ofNat 0)))])), k25⟩
theorem e104_ok : EntOk Tryz.prog Hd.G e104 := Hd.entry (l := [e88, e89, e95, e96, e98, e103]) (m := 1000000) (AllOk.cons e88_ok (AllOk.cons e89_ok (AllOk.cons e95_ok (AllOk.cons e96_ok (AllOk.cons e98_ok (AllOk.cons e103_ok Hd.none)))))) (by kernel_rfl) (by kernel_rfl)
def e105 : Ent := ⟨117, [], (some ([k6, (.sc (.int .i64 (.ofNat 62))), (.sc (.int .i64 (.ofNat 336))), (.sc (.int .i64 (.ofNat 0))), (.sc (.int .i64 (.ofNat 0)))], [k6, (.sc (.int .i64 (.ofNat 81))), (.sc (.int .i64 (.ofNat 336))), (.sc (.int .i64 (.ofNat 0))), (.sc (.int .i64 (.ofNat 0)))])), (.agg [(.sc (.int .i64 (.ofNat 4))), (strL [108]), (strL []), (.sc (.int .i64 (.ofNat 3))), (.sc (.int .i64 (.ofNat 0))), (.sc (.int .i64 (.ofNat 0))), (.sc (.int .i64 (.ofNat 0))), (.sc (.int .i64 (.ofNat 0))), (.sl .full 0 []), k26, (.sc (.int .i64 (.ofNat 250)))])⟩
theorem e105_ok : EntOk Tryz.prog Hd.G e105 := Hd.entry (l := [e82, e84, e86, e87, e90, e92, e93, e94, e97, e99, e101, e102, e104]) (m := 1000000) (AllOk.cons e82_ok (AllOk.cons e84_ok (AllOk.cons e86_ok (AllOk.cons e87_ok (AllOk.cons e90_ok (AllOk.cons e92_ok (AllOk.cons e93_ok (AllOk.cons e94_ok (AllOk.cons e97_ok (AllOk.cons e99_ok (AllOk.cons e101_ok (AllOk.cons e102_ok (AllOk.cons e104_ok Hd.none))))))))))))) (by kernel_rfl) (by kernel_rfl)
def e106 : Ent := ⟨72, [k0], none, (.tup [(.agg [(.sc (.int .i64 (.ofNat 1))), (strL []), (strL []), (.sc (.int .i64 (.ofNat 0))), (.sc (.int .i64 (.ofNat 0))), (.sc (.int .i64 (.ofNat 0))), (.sc (.int .i64 (.ofNat 0))), (.sc (.int .i64 (.ofNat 0))), (.sl .full 0 []), k27, (.sc (.int .i64 (.ofNat 0)))]), (.sl .full 0 [])])⟩
theorem e106_ok : EntOk Tryz.prog Hd.G e106 := Hd.entry (l := [e81, e83, e85, e91, e100, e105]) (m := 1000000) (AllOk.cons e81_ok (AllOk.cons e83_ok (AllOk.cons e85_ok (AllOk.cons e91_ok (AllOk.cons e100_ok (AllOk.cons e105_ok Hd.none)))))) (by kernel_rfl) (by kernel_rfl)
def e107 : Ent := ⟨152, [k28, (.sc (.int .i64 (.ofNat 0)))], none, (.tup [(.agg [(.sc (.int .i64 (.ofNat 1))), (strL [108, 105, 110, 101]), (.sc (.int .i64 (.ofNat 0)))]), (.sc (.bool true))])⟩
theorem e107_ok : EntOk Tryz.prog Hd.G e107 := Hd.entry (l := []) (m := 1000000) Hd.none (by kernel_rfl) (by kernel_rfl)
def e108 : Ent := ⟨152, [k28, (.sc (.int .i64 (.ofNat 13)))], none, (.tup [(.agg [(.sc (.int .i64 (.ofNat 1))), (strL [101, 97, 114, 110]), (.sc (.int .i64 (.ofNat 13)))]), (.sc (.bool true))])⟩
theorem e108_ok : EntOk Tryz.prog Hd.G e108 := Hd.entry (l := []) (m := 1000000) Hd.none (by kernel_rfl) (by kernel_rfl)
def e109 : Ent := ⟨152, [k28, (.sc (.int .i64 (.ofNat 29)))], none, (.tup [(.agg [(.sc (.int .i64 (.ofNat 1))), (strL [102, 111, 114]), (.sc (.int .i64 (.ofNat 29)))]), (.sc (.bool true))])⟩
theorem e109_ok : EntOk Tryz.prog Hd.G e109 := Hd.entry (l := []) (m := 1000000) Hd.none (by kernel_rfl) (by kernel_rfl)
def e110 : Ent := ⟨152, [k28, (.sc (.int .i64 (.ofNat 42)))], none, (.tup [(.agg [(.sc (.int .i64 (.ofNat 1))), (strL [102, 114, 111, 109]), (.sc (.int .i64 (.ofNat 42)))]), (.sc (.bool true))])⟩
theorem e110_ok : EntOk Tryz.prog Hd.G e110 := Hd.entry (l := []) (m := 1000000) Hd.none (by kernel_rfl) (by kernel_rfl)
def e111 : Ent := ⟨152, [k28, (.sc (.int .i64 (.ofNat 75)))], none, (.tup [(.agg [(.sc (.int .i64 (.ofNat 6))), (strL [123]), (.sc (.int .i64 (.ofNat 75)))]), (.sc (.bool true))])⟩
theorem e111_ok : EntOk Tryz.prog Hd.G e111 := Hd.entry (l := []) (m := 1000000) Hd.none (by kernel_rfl) (by kernel_rfl)
def e112 : Ent := ⟨152, [k28, (.sc (.int .i64 (.ofNat 87)))], none, (.tup [(.agg [(.sc (.int .i64 (.ofNat 6))), (strL [125]), (.sc (.int .i64 (.ofNat 87)))]), (.sc (.bool true))])⟩
theorem e112_ok : EntOk Tryz.prog Hd.G e112 := Hd.entry (l := []) (m := 1000000) Hd.none (by kernel_rfl) (by kernel_rfl)
def e113 : Ent := ⟨152, [k28, (.sc (.int .i64 (.ofNat 5)))], none, (.tup [(.agg [(.sc (.int .i64 (.ofNat 1))), (strL [108]), (.sc (.int .i64 (.ofNat 5)))]), (.sc (.bool true))])⟩
theorem e113_ok : EntOk Tryz.prog Hd.G e113 := Hd.entry (l := []) (m := 1000000) Hd.none (by kernel_rfl) (by kernel_rfl)
def e114 : Ent := ⟨152, [k28, (.sc (.int .i64 (.ofNat 17)))], none, (.tup [(.agg [(.sc (.int .i64 (.ofNat 6))), (strL [59]), (.sc (.int .i64 (.ofNat 17)))]), (.sc (.bool true))])⟩
theorem e114_ok : EntOk Tryz.prog Hd.G e114 := Hd.entry (l := []) (m := 1000000) Hd.none (by kernel_rfl) (by kernel_rfl)
def e115 : Ent := ⟨152, [k28, (.sc (.int .i64 (.ofNat 33)))], none, (.tup [(.agg [(.sc (.int .i64 (.ofNat 1))), (strL [108]), (.sc (.int .i64 (.ofNat 33)))]), (.sc (.bool true))])⟩
theorem e115_ok : EntOk Tryz.prog Hd.G e115 := Hd.entry (l := []) (m := 1000000) Hd.none (by kernel_rfl) (by kernel_rfl)
def e116 : Ent := ⟨152, [k28, (.sc (.int .i64 (.ofNat 47)))], none, (.tup [(.agg [(.sc (.int .i64 (.ofNat 5))), k1, (.sc (.int .i64 (.ofNat 47)))]), (.sc (.bool true))])⟩
theorem e116_ok : EntOk Tryz.prog Hd.G e116 := Hd.entry (l := []) (m := 1000000) Hd.none (by kernel_rfl) (by kernel_rfl)
def e117 : Ent := ⟨152, [k28, (.sc (.int .i64 (.ofNat 77)))], none, (.tup [(.agg [(.sc (.int .i64 (.ofNat 1))), (strL [97, 109, 111, 117, 110, 116]), (.sc (.int .i64 (.ofNat 77)))]), (.sc (.bool true))])⟩
theorem e117_ok : EntOk Tryz.prog Hd.G e117 := Hd.entry (l := []) (m := 1000000) Hd.none (by kernel_rfl) (by kernel_rfl)
def e118 : Ent := ⟨152, [k28, (.sc (.int .i64 (.ofNat 7)))], none, (.tup [(.agg [(.sc (.int .i64 (.ofNat 6))), (strL [58]), (.sc (.int .i64 (.ofNat 7)))]), (.sc (.bool true))])⟩
theorem e118_ok : EntOk Tryz.prog Hd.G e118 := Hd.entry (l := []) (m := 1000000) Hd.none (by kernel_rfl) (by kernel_rfl)
def e119 : Ent := ⟨152, [k28, (.sc (.int .i64 (.ofNat 19)))], none, (.tup [(.agg [(.sc (.int .i64 (.ofNat 1))), k3, (.sc (.int .i64 (.ofNat 19)))]), (.sc (.bool true))])⟩
theorem e119_ok : EntOk Tryz.prog Hd.G e119 := Hd.entry (l := []) (m := 1000000) Hd.none (by kernel_rfl) (by kernel_rfl)
def e120 : Ent := ⟨152, [k28, (.sc (.int .i64 (.ofNat 35)))], none, (.tup [(.agg [(.sc (.int .i64 (.ofNat 1))), (strL [114, 97, 110, 107]), (.sc (.int .i64 (.ofNat 35)))]), (.sc (.bool true))])⟩
theorem e120_ok : EntOk Tryz.prog Hd.G e120 := Hd.entry (l := []) (m := 1000000) Hd.none (by kernel_rfl) (by kernel_rfl)
def e121 : Ent := ⟨152, [k28, (.sc (.int .i64 (.ofNat 58)))], none, (.tup [(.agg [(.sc (.int .i64 (.ofNat 1))), (strL [107, 110, 111, 119, 110]), (.sc (.int .i64 (.ofNat 58)))]), (.sc (.bool true))])⟩
theorem e121_ok : EntOk Tryz.prog Hd.G e121 := Hd.entry (l := []) (m := 1000000) Hd.none (by kernel_rfl) (by kernel_rfl)
def e122 : Ent := ⟨152, [k28, (.sc (.int .i64 (.ofNat 84)))], none, (.tup [(.agg [(.sc (.int .i64 (.ofNat 3))), (strL [49]), (.sc (.int .i64 (.ofNat 84)))]), (.sc (.bool true))])⟩
theorem e122_ok : EntOk Tryz.prog Hd.G e122 := Hd.entry (l := []) (m := 1000000) Hd.none (by kernel_rfl) (by kernel_rfl)
def e123 : Ent := ⟨152, [k28, (.sc (.int .i64 (.ofNat 9)))], none, (.tup [(.agg [(.sc (.int .i64 (.ofNat 2))), (strL [69, 85, 82]), (.sc (.int .i64 (.ofNat 9)))]), (.sc (.bool true))])⟩
theorem e123_ok : EntOk Tryz.prog Hd.G e123 := Hd.entry (l := []) (m := 1000000) Hd.none (by kernel_rfl) (by kernel_rfl)
def e124 : Ent := ⟨152, [k28, (.sc (.int .i64 (.ofNat 27)))], none, (.tup [(.agg [(.sc (.int .i64 (.ofNat 3))), (strL [49]), (.sc (.int .i64 (.ofNat 27)))]), (.sc (.bool true))])⟩
theorem e124_ok : EntOk Tryz.prog Hd.G e124 := Hd.entry (l := []) (m := 1000000) Hd.none (by kernel_rfl) (by kernel_rfl)
def e125 : Ent := ⟨152, [k28, (.sc (.int .i64 (.ofNat 40)))], none, (.tup [(.agg [(.sc (.int .i64 (.ofNat 3))), (strL [48]), (.sc (.int .i64 (.ofNat 40)))]), (.sc (.bool true))])⟩
theorem e125_ok : EntOk Tryz.prog Hd.G e125 := Hd.entry (l := []) (m := 1000000) Hd.none (by kernel_rfl) (by kernel_rfl)
def e126 : Ent := ⟨152, [k28, (.sc (.int .i64 (.ofNat 64)))], none, (.tup [(.agg [(.sc (.int .i64 (.ofNat 5))), k1, (.sc (.int .i64 (.ofNat 64)))]), (.sc (.bool true))])⟩
theorem e126_ok : EntOk Tryz.prog Hd.G e126 := Hd.entry (l := []) (m := 1000000) Hd.none (by kernel_rfl) (by kernel_rfl)
def e127 : Ent := ⟨152, [k28, (.sc (.int .i64 (.ofNat 85)))], none, (.tup [(.agg [(.sc (.int .i64 (.ofNat 6))), (strL [59]), (.sc (.int .i64 (.ofNat 85)))]), (.sc (.bool true))])⟩
theorem e127_ok : EntOk Tryz.prog Hd.G e127 := Hd.entry (l := []) (m := 1000000) Hd.none (by kernel_rfl) (by kernel_rfl)
def e128 : Ent := ⟨115, [k28], none, (.tup [k29, (.sc (.int .i64 (.ofNat 0))), (.sc (.int .i64 (.ofNat 0)))])⟩
theorem e128_ok : EntOk Tryz.prog Hd.G e128 := Hd.entry (l := [e107, e108, e109, e110, e111, e112, e113, e114, e115, e116, e117, e118, e119, e120, e121, e122, e123, e124, e125, e126, e127]) (m := 1000000) (AllOk.cons e107_ok (AllOk.cons e108_ok (AllOk.cons e109_ok (AllOk.cons e110_ok (AllOk.cons e111_ok (AllOk.cons e112_ok (AllOk.cons e113_ok (AllOk.cons e114_ok (AllOk.cons e115_ok (AllOk.cons e116_ok (AllOk.cons e117_ok (AllOk.cons e118_ok (AllOk.cons e119_ok (AllOk.cons e120_ok (AllOk.cons e121_ok (AllOk.cons e122_ok (AllOk.cons e123_ok (AllOk.cons e124_ok (AllOk.cons e125_ok (AllOk.cons e126_ok (AllOk.cons e127_ok Hd.none))))))))))))))))))))) (by kernel_rfl) (by kernel_rfl)
def e129 : Ent := ⟨117, [], (some ([k29, (.sc (.int .i64 (.ofNat 0))), (.sc (.int .i64 (.ofNat 88))), (.sc (.int .i64 (.ofNat 0))), (.sc (.int .i64 (.ofNat 0)))], [k29, (.sc (.int .i64 (.ofNat 6))), (.sc (.int .i64 (.ofNat 88))), (.sc (.int .i64 (.ofNat 0))), (.sc (.int .i64 (.ofNat 0)))])), (.agg [(.sc (.int .i64 (.ofNat 3))), (strL [108]), (strL [69, 85, 82]), (.sc (.int .i64 (.ofNat 1))), (.sc (.int .i64 (.ofNat 0))), (.sc (.int .i64 (.ofNat 0))), (.sc (.int .i64 (.ofNat 0))), (.sc (.int .i64 (.ofNat 0))), (.sl .full 0 []), (.sl .full 0 []), (.sc (.int .i64 (.ofNat 0)))])⟩
theorem e129_ok : EntOk Tryz.prog Hd.G e129 := Hd.entry (l := [e82, e84, e86, e92, e94, e97, e101]) (m := 1000000) (AllOk.cons e82_ok (AllOk.cons e84_ok (AllOk.cons e86_ok (AllOk.cons e92_ok (AllOk.cons e94_ok (AllOk.cons e97_ok (AllOk.cons e101_ok Hd.none))))))) (by kernel_rfl) (by kernel_rfl)
def e130 : Ent := ⟨159, [], (some ([k29, (.sc (.int .i64 (.ofNat 10))), (.sc (.int .i64 (.ofNat 88))), (.sc (.int .i64 (.ofNat 0))), (.sc (.int .i64 (.ofNat 0)))], [k29, (.sc (.int .i64 (.ofNat 16))), (.sc (.int .i64 (.ofNat 88))), (.sc (.int .i64 (.ofNat 0))), (.sc (.int .i64 (.ofNat 0)))])), (.agg [(.sc (.int .i64 (.ofNat 5))), (strL []), (strL []), (.sc (.int .i64 (.ofNat 0))), (.sc (.int .i64 (.ofNat 8766))), (.sc (.int .i64 (.ofNat 36525))), (.sc (.int .i64 (.ofNat 8766))), (.sc (.int .i64 (.ofNat 0))), (.sl .full 0 []), (.sl .full 0 []), (.sc (.int .i64 (.ofNat 35)))])⟩
theorem e130_ok : EntOk Tryz.prog Hd.G e130 := Hd.entry (l := [e86, e92, e101]) (m := 1000000) (AllOk.cons e86_ok (AllOk.cons e92_ok (AllOk.cons e101_ok Hd.none))) (by kernel_rfl) (by kernel_rfl)
def e131 : Ent := ⟨187, [], (some ([k29, (.sc (.int .i64 (.ofNat 18))), (.sc (.int .i64 (.ofNat 88))), (.sc (.int .i64 (.ofNat 0))), (.sc (.int .i64 (.ofNat 0)))], [k29, (.sc (.int .i64 (.ofNat 19))), (.sc (.int .i64 (.ofNat 88))), (.sc (.int .i64 (.ofNat 0))), (.sc (.int .i64 (.ofNat 0)))])), (.agg [(.sc (.int .i64 (.ofNat 11))), (strL []), (strL [110, 117, 109, 98, 101, 114]), (.sc (.int .i64 (.ofNat 1))), (.sc (.int .i64 (.ofNat 0))), (.sc (.int .i64 (.ofNat 0))), (.sc (.int .i64 (.ofNat 0))), (.sc (.int .i64 (.ofNat 0))), (.sl .full 0 []), (.sl .full 0 []), (.sc (.int .i64 (.ofNat 84)))])⟩
theorem e131_ok : EntOk Tryz.prog Hd.G e131 := Hd.entry (l := [e82, e84, e94, e97]) (m := 1000000) (AllOk.cons e82_ok (AllOk.cons e84_ok (AllOk.cons e94_ok (AllOk.cons e97_ok Hd.none)))) (by kernel_rfl) (by kernel_rfl)
def e132 : Ent := ⟨160, [], (some ([k29, (.sc (.int .i64 (.ofNat 16))), (.sc (.int .i64 (.ofNat 88))), (.sc (.int .i64 (.ofNat 0))), (.sc (.int .i64 (.ofNat 0)))], [k29, (.sc (.int .i64 (.ofNat 21))), (.sc (.int .i64 (.ofNat 88))), (.sc (.int .i64 (.ofNat 0))), (.sc (.int .i64 (.ofNat 0)))])), k31⟩
theorem e132_ok : EntOk Tryz.prog Hd.G e132 := Hd.entry (l := [e131]) (m := 1000000) (AllOk.cons e131_ok Hd.none) (by kernel_rfl) (by kernel_rfl)
def e133 : Ent := ⟨117, [], (some ([k29, (.sc (.int .i64 (.ofNat 6))), (.sc (.int .i64 (.ofNat 88))), (.sc (.int .i64 (.ofNat 0))), (.sc (.int .i64 (.ofNat 0)))], [k29, (.sc (.int .i64 (.ofNat 21))), (.sc (.int .i64 (.ofNat 88))), (.sc (.int .i64 (.ofNat 0))), (.sc (.int .i64 (.ofNat 0)))])), (.agg [(.sc (.int .i64 (.ofNat 4))), (strL [108]), (strL []), (.sc (.int .i64 (.ofNat 1))), (.sc (.int .i64 (.ofNat 0))), (.sc (.int .i64 (.ofNat 0))), (.sc (.int .i64 (.ofNat 0))), (.sc (.int .i64 (.ofNat 0))), (.sl .full 0 []), k32, (.sc (.int .i64 (.ofNat 19)))])⟩
theorem e133_ok : EntOk Tryz.prog Hd.G e133 := Hd.entry (l := [e82, e84, e86, e92, e94, e97, e101, e130, e132]) (m := 1000000) (AllOk.cons e82_ok (AllOk.cons e84_ok (AllOk.cons e86_ok (AllOk.cons e92_ok (AllOk.cons e94_ok (AllOk.cons e97_ok (AllOk.cons e101_ok (AllOk.cons e130_ok (AllOk.cons e132_ok Hd.none))))))))) (by kernel_rfl) (by kernel_rfl)
end Go.Proofs.YtnijkdknnmgoeaaGreat
namespace Go.Proofs.YtnijkdknnmgoeaaGreat
open AI
set_option maxRecDepth 100000
set_option maxHeartbeats 4000000
def k33 : AV := .sl .lost 2 [(.sc (.int .i64 (.ofNat 3))), (strL [108]), (strL [69, 85, 82]), (.sc (.int .i64 (.ofNat 1))), (.sc (.int .i64 (.ofNat 0))), (.sc (.int .i64 (.ofNat 0))), (.sc (.int .i64 (.ofNat 0))), (.sc (.int .i64 (.ofNat 0))), (.sl .full 0 []), (.sl .full 0 []), (.sc (.int .i64 (.ofNat 0))), (.sc (.int .i64 (.ofNat 4))), (strL [108]), (strL []), (.sc (.int .i64 (.ofNat 1))), (.sc (.int .i64 (.ofNat 0))), (.sc (.int .i64 (.ofNat 0))), (.sc (.int .i64 (.ofNat 0))), (.sc (.int .i64 (.ofNat 0))), (.sl .full 0 []), k32, (.sc (.int .i64 (.ofNat 19)))]
def k34 : AV := .sl .lost 2 [(.sc (.int .i64 (.ofNat 2))), (.sc (.int .i64 (.ofNat 0))), (strL [110, 117, 109, 98, 101, 114]), (.sc (.int .i64 (.ofNat 0))), (.sl .full 0 []), (.sl .full 0 []), (.sc (.int .i64 (.ofNat 1))), (.sc (.int .i64 (.ofNat 3))), (strL [110, 117, 109, 98, 101, 114]), (.sc (.int .i64 (.ofNat 0))), (.sl .full 0 []), (.sl .full 0 [])]
def k35 : AV := .sl .lost 2 [(.sc (.int .i64 (.ofNat 1))), (.sc (.int .i64 (.ofNat 100))), (strL [69, 85, 82]), (.sc (.int .i64 (.ofNat 0))), (.sl .full 0 []), (.sl .full 0 []), (.sc (.int .i64 (.ofNat 2))), (.sc (.int .i64 (.ofNat 0))), (strL [110, 117, 109, 98, 101, 114]), (.sc (.int .i64 (.ofNat 0))), (.sl .full 0 []), (.sl .full 0 [])]
def k36 : AV := .sl .lost 2 [(.sc (.int .i64 (.ofNat 4))), (.sc (.int .i64 (.ofNat 1))), (strL [110, 117, 109, 98, 101, 114]), (.sc (.int .i64 (.ofNat 0))), (.sl .full 0 []), (.sl .full 0 []), (.sc (.int .i64 (.ofNat 1))), (.sc (.int .i64 (.ofNat 1))), (strL [110, 117, 109, 98, 101, 114]), (.sc (.int .i64 (.ofNat 0))), (.sl .full 0 []), (.sl .full 0 [])]
def k37 : AV := .sl .lost 2 [(.sc (.int .i64 (.ofNat 8))), (.sc (.int .i64 (.ofNat 0))), (strL [116, 114, 117, 116, 104]), (.sc (.int .i64 (.ofNat 0))), (.sl .full 0 []), k36, (.sc (.int .i64 (.ofNat 5))), (.sc (.int .i64 (.ofNat 0))), (strL [116, 114, 117, 116, 104]), (.sc (.int .i64 (.ofNat 0))), (.sl .full 0 []), (.sl .full 1 [(.sc (.int .i64 (.ofNat 8))), (.sc (.int .i64 (.ofNat 0))), (strL [116, 114, 117, 116, 104]), (.sc (.int .i64 (.ofNat 0))), (.sl .full 0 []), k34])]
def k38 : AV := .sl .lost 3 [(.sc (.int .i64 (.ofNat 1))), (.sc (.int .i64 (.ofNat 0))), (.sc (.int .i64 (.ofNat 0))), (.sc (.int .i64 (.ofNat 8766))), (.sc (.int .i64 (.ofNat 36525))), (.sc (.int .i64 (.ofNat 8766))), (.sl .lost 1 [(.sc (.int .i64 (.ofNat 5))), (.sc (.int .i64 (.ofNat 0))), (strL [116, 114, 117, 116, 104]), (.sc (.int .i64 (.ofNat 0))), (.sl .full 0 []), (.sl .full 1 [(.sc (.int .i64 (.ofNat 8))), (.sc (.int .i64 (.ofNat 0))), (strL [116, 114, 117, 116, 104]), (.sc (.int .i64 (.ofNat 0))), (.sl .full 0 []), k34])]), (.sl .full 0 []), (.sc (.int .i64 (.ofNat 13))), (.sc (.int .i64 (.ofNat 0))), (strL [69, 85, 82]), (.sc (.int .i64 (.ofNat 0))), (.sl .full 0 []), k35, (.sc (.int .i64 (.ofNat 2))), (.sc (.int .i64 (.ofNat 0))), (.sc (.int .i64 (.ofNat 0))), (.sc (.int .i64 (.ofNat 8766))), (.sc (.int .i64 (.ofNat 9132))), (.sc (.int .i64 (.ofNat 8766))), k37, (.sl .full 0 []), (.sc (.int .i64 (.ofNat 3))), (.sc (.int .i64 (.ofNat 3))), (strL [69, 85, 82]), (.sc (.int .i64 (.ofNat 0))), (.sl .full 0 []), (.sl .full 0 []), (.sc (.int .i64 (.ofNat 3))), (.sc (.int .i64 (.ofNat 0))), (.sc (.int .i64 (.ofNat 0))), (.sc (.int .i64 (.ofNat 8766))), (.sc (.int .i64 (.ofNat 36525))), (.sc (.int .i64 (.ofNat 8797))), (.sl .full 0 []), (.sl .lost 1 [(.sc (.int .i64 (.ofNat 1)))]), (.sc (.int .i64 (.ofNat 1))), (.sc (.int .i64 (.ofNat 0))), (strL [69, 85, 82]), (.sc (.int .i64 (.ofNat 0))), (.sl .full 0 []), (.sl .full 0 [])]
def e134 : Ent := ⟨72, [k28], none, (.tup [(.agg [(.sc (.int .i64 (.ofNat 1))), (strL []), (strL []), (.sc (.int .i64 (.ofNat 0))), (.sc (.int .i64 (.ofNat 0))), (.sc (.int .i64 (.ofNat 0))), (.sc (.int .i64 (.ofNat 0))), (.sc (.int .i64 (.ofNat 0))), (.sl .full 0 []), k33, (.sc (.int .i64 (.ofNat 0)))]), (.sl .full 0 [])])⟩
theorem e134_ok : EntOk Tryz.prog Hd.G e134 := Hd.entry (l := [e128, e129, e133]) (m := 1000000) (AllOk.cons e128_ok (AllOk.cons e129_ok (AllOk.cons e133_ok Hd.none))) (by kernel_rfl) (by kernel_rfl)
def e135 : Ent := ⟨80, [(.agg [(.sc (.int .i64 (.ofNat 2))), (strL [97]), (strL [110, 117, 109, 98, 101, 114]), (.sc (.int .i64 (.ofNat 0))), (.sc (.int .i64 (.ofNat 0))), (.sc (.int .i64 (.ofNat 0))), (.sc (.int .i64 (.ofNat 0))), (.sc (.int .i64 (.ofNat 0))), (.sl .full 0 []), (.sl .full 0 []), (.sc (.int .i64 (.ofNat 0)))]), (.sc (.int .i64 (.ofNat 2)))], (some ([(.sc (.int .i64 (.ofNat 1)))], [(.sc (.int .i64 (.ofNat 2)))])), (.sc (.bool true))⟩
theorem e135_ok : EntOk Tryz.prog Hd.G e135 := Hd.entry (l := []) (m := 1000000) Hd.none (by kernel_rfl) (by kernel_rfl)
def e136 : Ent := ⟨80, [(.agg [(.sc (.int .i64 (.ofNat 3))), (strL [108]), (strL [69, 85, 82]), (.sc (.int .i64 (.ofNat 1))), (.sc (.int .i64 (.ofNat 0))), (.sc (.int .i64 (.ofNat 0))), (.sc (.int .i64 (.ofNat 0))), (.sc (.int .i64 (.ofNat 0))), (.sl .full 0 []), (.sl .full 0 []), (.sc (.int .i64 (.ofNat 17)))]), (.sc (.int .i64 (.ofNat 2)))], (some ([(.sc (.int .i64 (.ofNat 2)))], [(.sc (.int .i64 (.ofNat 3)))])), (.sc (.bool true))⟩
theorem e136_ok : EntOk Tryz.prog Hd.G e136 := Hd.entry (l := []) (m := 1000000) Hd.none (by kernel_rfl) (by kernel_rfl)
def e137 : Ent := ⟨80, [(.agg [(.sc (.int .i64 (.ofNat 4))), (strL [108]), (strL []), (.sc (.int .i64 (.ofNat 1))), (.sc (.int .i64 (.ofNat 0))), (.sc (.int .i64 (.ofNat 0))), (.sc (.int .i64 (.ofNat 0))), (.sc (.int .i64 (.ofNat 0))), (.sl .full 0 []), k15, (.sc (.int .i64 (.ofNat 36)))]), (.sc (.int .i64 (.ofNat 2)))], (some ([(.sc (.int .i64 (.ofNat 3)))], [(.sc (.int .i64 (.ofNat 13)))])), (.sc (.bool true))⟩
theorem e137_ok : EntOk Tryz.prog Hd.G e137 := Hd.entry (l := []) (m := 1000000) Hd.none (by kernel_rfl) (by kernel_rfl)
def e138 : Ent := ⟨80, [(.agg [(.sc (.int .i64 (.ofNat 4))), (strL [108]), (strL []), (.sc (.int .i64 (.ofNat 2))), (.sc (.int .i64 (.ofNat 0))), (.sc (.int .i64 (.ofNat 0))), (.sc (.int .i64 (.ofNat 0))), (.sc (.int .i64 (.ofNat 0))), (.sl .full 0 []), k22, (.sc (.int .i64 (.ofNat 130)))]), (.sc (.int .i64 (.ofNat 2)))], (some ([(.sc (.int .i64 (.ofNat 13)))], [(.sc (.int .i64 (.ofNat 25)))])), (.sc (.bool true))⟩
theorem e138_ok : EntOk Tryz.prog Hd.G e138 := Hd.entry (l := []) (m := 1000000) Hd.none (by kernel_rfl) (by kernel_rfl)
def e139 : Ent := ⟨80, [(.agg [(.sc (.int .i64 (.ofNat 4))), (strL [108]), (strL []), (.sc (.int .i64 (.ofNat 3))), (.sc (.int .i64 (.ofNat 0))), (.sc (.int .i64 (.ofNat 0))), (.sc (.int .i64 (.ofNat 0))), (.sc (.int .i64 (.ofNat 0))), (.sl .full 0 []), k26, (.sc (.int .i64 (.ofNat 250)))]), (.sc (.int .i64 (.ofNat 2)))], (some ([(.sc (.int .i64 (.ofNat 25)))], [(.sc (.int .i64 (.ofNat 31)))])), (.sc (.bool true))⟩
theorem e139_ok : EntOk Tryz.prog Hd.G e139 := Hd.entry (l := []) (m := 1000000) Hd.none (by kernel_rfl) (by kernel_rfl)
def e140 : Ent := ⟨45, [(.agg [(.sc (.int .i64 (.ofNat 1))), (strL []), (strL []), (.sc (.int .i64 (.ofNat 0))), (.sc (.int .i64 (.ofNat 0))), (.sc (.int .i64 (.ofNat 0))), (.sc (.int .i64 (.ofNat 0))), (.sc (.int .i64 (.ofNat 0))), (.sl .full 0 []), k27, (.sc (.int .i64 (.ofNat 0)))])], none, (.sc (.bool true))⟩
theorem e140_ok : EntOk Tryz.prog Hd.G e140 := Hd.entry (l := [e135, e136, e137, e138, e139]) (m := 1000000) (AllOk.cons e135_ok (AllOk.cons e136_ok (AllOk.cons e137_ok (AllOk.cons e138_ok (AllOk.cons e139_ok Hd.none))))) (by kernel_rfl) (by kernel_rfl)
def e141 : Ent := ⟨46, [(.agg [(.sc (.int .i64 (.ofNat 1))), (strL []), (strL []), (.sc (.int .i64 (.ofNat 0))), (.sc (.int .i64 (.ofNat 0))), (.sc (.int .i64 (.ofNat 0))), (.sc (.int .i64 (.ofNat 0))), (.sc (.int .i64 (.ofNat 0))), (.sl .full 0 []), k27, (.sc (.int .i64 (.ofNat 0)))])], none, (.sl .full 0 [])⟩
theorem e141_ok : EntOk Tryz.prog Hd.G e141 := Hd.entry (l := []) (m := 1000000) Hd.none (by kernel_rfl) (by kernel_rfl)
def e142 : Ent := ⟨14, [(.agg [(.sc (.int .i64 (.ofNat 1))), (strL []), (strL []), (.sc (.int .i64 (.ofNat 0))), (.sc (.int .i64 (.ofNat 0))), (.sc (.int .i64 (.ofNat 0))), (.sc (.int .i64 (.ofNat 0))), (.sc (.int .i64 (.ofNat 0))), (.sl .full 0 []), k27, (.sc (.int .i64 (.ofNat 0)))])], none, (.tup [(.agg [(.sl .lost 1 [(strL [97]), (strL [110, 117, 109, 98, 101, 114]), (.sc (.int .i64 (.ofNat 0)))]), (.sl .lost 1 [(strL [108]), (strL [69, 85, 82]), (.sc (.int .i64 (.ofNat 1)))]), k38]), (.sl .full 0 [])])⟩
theorem e142_ok : EntOk Tryz.prog Hd.G e142 := Hd.entry (l := [e140, e141]) (m := 1000000) (AllOk.cons e140_ok (AllOk.cons e141_ok Hd.none)) (by kernel_rfl) (by kernel_rfl)
def e143 : Ent := ⟨80, [(.agg [(.sc (.int .i64 (.ofNat 3))), (strL [108]), (strL [69, 85, 82]), (.sc (.int .i64 (.ofNat 1))), (.sc (.int .i64 (.ofNat 0))), (.sc (.int .i64 (.ofNat 0))), (.sc (.int .i64 (.ofNat 0))), (.sc (.int .i64 (.ofNat 0))), (.sl .full 0 []), (.sl .full 0 []), (.sc (.int .i64 (.ofNat 0)))]), (.sc (.int .i64 (.ofNat 2)))], (some ([(.sc (.int .i64 (.ofNat 1)))], [(.sc (.int .i64 (.ofNat 2)))])), (.sc (.bool true))⟩
theorem e143_ok : EntOk Tryz.prog Hd.G e143 := Hd.entry (l := []) (m := 1000000) Hd.none (by kernel_rfl) (by kernel_rfl)
def e144 : Ent := ⟨80, [(.agg [(.sc (.int .i64 (.ofNat 4))), (strL [108]), (strL []), (.sc (.int .i64 (.ofNat 1))), (.sc (.int .i64 (.ofNat 0))), (.sc (.int .i64 (.ofNat 0))), (.sc (.int .i64 (.ofNat 0))), (.sc (.int .i64 (.ofNat 0))), (.sl .full 0 []), k32, (.sc (.int .i64 (.ofNat 19)))]), (.sc (.int .i64 (.ofNat 2)))], (some ([(.sc (.int .i64 (.ofNat 2)))], [(.sc (.int .i64 (.ofNat 6)))])), (.sc (.bool true))⟩
theorem e144_ok : EntOk Tryz.prog Hd.G e144 := Hd.entry (l := []) (m := 1000000) Hd.none (by kernel_rfl) (by kernel_rfl)
def e145 : Ent := ⟨45, [(.agg [(.sc (.int .i64 (.ofNat 1))), (strL []), (strL []), (.sc (.int .i64 (.ofNat 0))), (.sc (.int .i64 (.ofNat 0))), (.sc (.int .i64 (.ofNat 0))), (.sc (.int .i64 (.ofNat 0))), (.sc (.int .i64 (.ofNat 0))), (.sl .full 0 []), k33, (.sc (.int .i64 (.ofNat 0)))])], none, (.sc (.bool true))⟩
theorem e145_ok : EntOk Tryz.prog Hd.G e145 := Hd.entry (l := [e135, e136, e137, e138, e139, e143, e144]) (m := 1000000) (AllOk.cons e135_ok (AllOk.cons e136_ok (AllOk.cons e137_ok (AllOk.cons e138_ok (AllOk.cons e139_ok (AllOk.cons e143_ok (AllOk.cons e144_ok Hd.none))))))) (by kernel_rfl) (by kernel_rfl)
def e146 : Ent := ⟨46, [(.agg [(.sc (.int .i64 (.ofNat 1))), (strL []), (strL []), (.sc (.int .i64 (.ofNat 0))), (.sc (.int .i64 (.ofNat 0))), (.sc (.int .i64 (.ofNat 0))), (.sc (.int .i64 (.ofNat 0))), (.sc (.int .i64 (.ofNat 0))), (.sl .full 0 []), k33, (.sc (.int .i64 (.ofNat 0)))])], none, (.sl .lost 1 [(.sc (.int .i64 (.ofNat 11))), (.sc (.int .i64 (.ofNat 84)))])⟩
theorem e146_ok : EntOk Tryz.prog Hd.G e146 := Hd.entry (l := []) (m := 1000000) Hd.none (by kernel_rfl) (by kernel_rfl)
def e147 : Ent := ⟨14, [(.agg [(.sc (.int .i64 (.ofNat 1))), (strL []), (strL []), (.sc (.int .i64 (.ofNat 0))), (.sc (.int .i64 (.ofNat 0))), (.sc (.int .i64 (.ofNat 0))), (.sc (.int .i64 (.ofNat 0))), (.sc (.int .i64 (.ofNat 0))), (.sl .full 0 []), k33, (.sc (.int .i64 (.ofNat 0)))])], none, (.tup [(.agg [(.sl .full 0 []), (.sl .full 0 []), (.sl .full 0 [])]), (.sl .lost 1 [(.sc (.int .i64 (.ofNat 11))), (.sc (.int .i64 (.ofNat 84)))])])⟩
theorem e147_ok : EntOk Tryz.prog Hd.G e147 := Hd.entry (l := [e140, e141, e145, e146]) (m := 1000000) (AllOk.cons e140_ok (AllOk.cons e141_ok (AllOk.cons e145_ok (AllOk.cons e146_ok Hd.none)))) (by kernel_rfl) (by kernel_rfl)
def e148 : Ent := ⟨14, [(.agg [(.sc (.int .i64 (.ofNat 11))), (strL []), (strL [110, 117, 109, 98, 101, 114]), (.sc (.int .i64 (.ofNat 1))), (.sc (.int .i64 (.ofNat 0))), (.sc (.int .i64 (.ofNat 0))), (.sc (.int .i64 (.ofNat 0))), (.sc (.int .i64 (.ofNat 0))), (.sl .full 0 []), (.sl .full 0 []), (.sc (.int .i64 (.ofNat 0)))])], none, (.tup [(.agg [(.sl .full 0 []), (.sl .full 0 []), (.sl .full 0 [])]), (.sl .full 1 [(.sc (.int .i64 (.ofNat 1))), (.sc (.int .i64 (.ofNat 0)))])])⟩
theorem e148_ok : EntOk Tryz.prog Hd.G e148 := Hd.entry (l := [e140, e141, e145, e146]) (m := 1000000) (AllOk.cons e140_ok (AllOk.cons e141_ok (AllOk.cons e145_ok (AllOk.cons e146_ok Hd.none)))) (by kernel_rfl) (by kernel_rfl)
def e149 : Ent := ⟨16, [(.agg [(.sl .lost 1 [(strL [97]), (strL [110, 117, 109, 98, 101, 114]), (.sc (.int .i64 (.ofNat 0)))]), (.sl .lost 1 [(strL [108]), (strL [69, 85, 82]), (.sc (.int .i64 (.ofNat 1)))]), k38]), (.sc (.int .i64 (.ofNat 2))), (.sc (.int .i64 (.ofNat 8766))), (.sc (.int .i64 (.ofNat 8766)))], none, (.tup [(.sc (.int .i64 (.ofNat 1))), (.sc (.bool true))])⟩
theorem e149_ok : EntOk Tryz.prog Hd.G e149 := Hd.entry (l := []) (m := 1000000) Hd.none (by kernel_rfl) (by kernel_rfl)
end Go.Proofs.YtnijkdknnmgoeaaGreat
namespace Go.Proofs.YtnijkdknnmgoeaaGreat
open AI
set_option maxRecDepth 100000
set_option maxHeartbeats 4000000
def k39 : AV := .sl .full 2 [(.sc (.int .i64 (.ofNat 2))), (.sc (.int .i64 (.ofNat 0))), (strL [110, 117, 109, 98, 101, 114]), (.sc (.int .i64 (.ofNat 0))), (.sl .full 0 []), (.sl .full 0 []), (.sc (.int .i64 (.ofNat 1))), (.sc (.int .i64 (.ofNat 3))), (strL [110, 117, 109, 98, 101, 114]), (.sc (.int .i64 (.ofNat 0))), (.sl .full 0 []), (.sl .full 0 [])]
def e150 : Ent := ⟨16, [(.agg [(.sl .lost 1 [(strL [97]), (strL [110, 117, 109, 98, 101, 114]), (.sc (.int .i64 (.ofNat 0)))]), (.sl .lost 1 [(strL [108]), (strL [69, 85, 82]), (.sc (.int .i64 (.ofNat 1)))]), k38]), (.sc (.int .i64 (.ofNat 3))), (.sc (.int .i64 (.ofNat 8766))), (.sc (.int .i64 (.ofNat 8796)))], none, (.tup [(.sc (.int .i64 (.ofNat 0))), (.sc (.bool false))])⟩
theorem e150_ok : EntOk Tryz.prog Hd.G e150 := Hd.entry (l := []) (m := 1000000) Hd.none (by kernel_rfl) (by kernel_rfl)
def e151 : Ent := ⟨16, [(.agg [(.sl .lost 1 [(strL [97]), (strL [110, 117, 109, 98, 101, 114]), (.sc (.int .i64 (.ofNat 0)))]), (.sl .lost 1 [(strL [108]), (strL [69, 85, 82]), (.sc (.int .i64 (.ofNat 1)))]), k38]), (.sc (.int .i64 (.ofNat 2))), (.sc (.int .i64 (.ofNat 9132))), (.sc (.int .i64 (.ofNat 9999)))], none, (.tup [(.sc (.int .i64 (.ofNat 0))), (.sc (.bool false))])⟩
theorem e151_ok : EntOk Tryz.prog Hd.G e151 := Hd.entry (l := []) (m := 1000000) Hd.none (by kernel_rfl) (by kernel_rfl)
def e152 : Ent := ⟨22, [(.agg [(.sl .lost 1 [(strL [97]), (strL [110, 117, 109, 98, 101, 114]), (.sc (.int .i64 (.ofNat 0)))]), (.sl .lost 1 [(strL [108]), (strL [69, 85, 82]), (.sc (.int .i64 (.ofNat 1)))]), k38])], none, (.sc (.bool true))⟩
theorem e152_ok : EntOk Tryz.prog Hd.G e152 := Hd.entry (l := []) (m := 1000000) Hd.none (by kernel_rfl) (by kernel_rfl)
def e153 : Ent := ⟨24, [(.agg [(.sl .lost 1 [(strL [97]), (strL [110, 117, 109, 98, 101, 114]), (.sc (.int .i64 (.ofNat 0)))]), (.sl .lost 1 [(strL [108]), (strL [69, 85, 82]), (.sc (.int .i64 (.ofNat 1)))]), k38]), (.sc (.int .i64 (.ofNat 0))), (.sc (.int .i64 (.ofNat 0)))], none, (.sc (.bool false))⟩
theorem e153_ok : EntOk Tryz.prog Hd.G e153 := Hd.entry (l := []) (m := 1000000) Hd.none (by kernel_rfl) (by kernel_rfl)
def e154 : Ent := ⟨24, [(.agg [(.sl .lost 1 [(strL [97]), (strL [110, 117, 109, 98, 101, 114]), (.sc (.int .i64 (.ofNat 0)))]), (.sl .lost 1 [(strL [108]), (strL [69, 85, 82]), (.sc (.int .i64 (.ofNat 1)))]), k38]), (.sc (.int .i64 (.ofNat 1))), (.sc (.int .i64 (.ofNat 0)))], none, (.sc (.bool true))⟩
theorem e154_ok : EntOk Tryz.prog Hd.G e154 := Hd.entry (l := []) (m := 1000000) Hd.none (by kernel_rfl) (by kernel_rfl)
def e155 : Ent := ⟨24, [(.agg [(.sl .lost 1 [(strL [97]), (strL [110, 117, 109, 98, 101, 114]), (.sc (.int .i64 (.ofNat 0)))]), (.sl .lost 1 [(strL [108]), (strL [69, 85, 82]), (.sc (.int .i64 (.ofNat 1)))]), k38]), (.sc (.int .i64 (.ofNat 2))), (.sc (.int .i64 (.ofNat 0)))], none, (.sc (.bool false))⟩
theorem e155_ok : EntOk Tryz.prog Hd.G e155 := Hd.entry (l := []) (m := 1000000) Hd.none (by kernel_rfl) (by kernel_rfl)
def e156 : Ent := ⟨51, [(.agg [(.sl .lost 1 [(strL [97]), (strL [110, 117, 109, 98, 101, 114]), (.sc (.int .i64 (.ofNat 0)))]), (.sl .lost 1 [(strL [108]), (strL [69, 85, 82]), (.sc (.int .i64 (.ofNat 1)))]), k38]), (.sc (.int .i64 (.ofNat 0)))], none, (.sl .lost 1 [(.sc (.int .i64 (.ofNat 1)))])⟩
theorem e156_ok : EntOk Tryz.prog Hd.G e156 := Hd.entry (l := [e153, e154, e155]) (m := 1000000) (AllOk.cons e153_ok (AllOk.cons e154_ok (AllOk.cons e155_ok Hd.none))) (by kernel_rfl) (by kernel_rfl)
def e157 : Ent := ⟨24, [(.agg [(.sl .lost 1 [(strL [97]), (strL [110, 117, 109, 98, 101, 114]), (.sc (.int .i64 (.ofNat 0)))]), (.sl .lost 1 [(strL [108]), (strL [69, 85, 82]), (.sc (.int .i64 (.ofNat 1)))]), k38]), (.sc (.int .i64 (.ofNat 0))), (.sc (.int .i64 (.ofNat 1)))], none, (.sc (.bool false))⟩
theorem e157_ok : EntOk Tryz.prog Hd.G e157 := Hd.entry (l := []) (m := 1000000) Hd.none (by kernel_rfl) (by kernel_rfl)
def e158 : Ent := ⟨24, [(.agg [(.sl .lost 1 [(strL [97]), (strL [110, 117, 109, 98, 101, 114]), (.sc (.int .i64 (.ofNat 0)))]), (.sl .lost 1 [(strL [108]), (strL [69, 85, 82]), (.sc (.int .i64 (.ofNat 1)))]), k38]), (.sc (.int .i64 (.ofNat 1))), (.sc (.int .i64 (.ofNat 1)))], none, (.sc (.bool false))⟩
theorem e158_ok : EntOk Tryz.prog Hd.G e158 := Hd.entry (l := []) (m := 1000000) Hd.none (by kernel_rfl) (by kernel_rfl)
def e159 : Ent := ⟨51, [(.agg [(.sl .lost 1 [(strL [97]), (strL [110, 117, 109, 98, 101, 114]), (.sc (.int .i64 (.ofNat 0)))]), (.sl .lost 1 [(strL [108]), (strL [69, 85, 82]), (.sc (.int .i64 (.ofNat 1)))]), k38]), (.sc (.int .i64 (.ofNat 1)))], none, (.sl .lost 1 [(.sc (.int .i64 (.ofNat 2)))])⟩
theorem e159_ok : EntOk Tryz.prog Hd.G e159 := Hd.entry (l := [e153, e154, e155, e157, e158]) (m := 1000000) (AllOk.cons e153_ok (AllOk.cons e154_ok (AllOk.cons e155_ok (AllOk.cons e157_ok (AllOk.cons e158_ok Hd.none))))) (by kernel_rfl) (by kernel_rfl)
def e160 : Ent := ⟨24, [(.agg [(.sl .lost 1 [(strL [97]), (strL [110, 117, 109, 98, 101, 114]), (.sc (.int .i64 (.ofNat 0)))]), (.sl .lost 1 [(strL [108]), (strL [69, 85, 82]), (.sc (.int .i64 (.ofNat 1)))]), k38]), (.sc (.int .i64 (.ofNat 1))), (.sc (.int .i64 (.ofNat 2)))], none, (.sc (.bool true))⟩
theorem e160_ok : EntOk Tryz.prog Hd.G e160 := Hd.entry (l := []) (m := 1000000) Hd.none (by kernel_rfl) (by kernel_rfl)
def e161 : Ent := ⟨24, [(.agg [(.sl .lost 1 [(strL [97]), (strL [110, 117, 109, 98, 101, 114]), (.sc (.int .i64 (.ofNat 0)))]), (.sl .lost 1 [(strL [108]), (strL [69, 85, 82]), (.sc (.int .i64 (.ofNat 1)))]), k38]), (.sc (.int .i64 (.ofNat 2))), (.sc (.int .i64 (.ofNat 2)))], none, (.sc (.bool false))⟩
theorem e161_ok : EntOk Tryz.prog Hd.G e161 := Hd.entry (l := []) (m := 1000000) Hd.none (by kernel_rfl) (by kernel_rfl)
def e162 : Ent := ⟨51, [(.agg [(.sl .lost 1 [(strL [97]), (strL [110, 117, 109, 98, 101, 114]), (.sc (.int .i64 (.ofNat 0)))]), (.sl .lost 1 [(strL [108]), (strL [69, 85, 82]), (.sc (.int .i64 (.ofNat 1)))]), k38]), (.sc (.int .i64 (.ofNat 2)))], none, (.sl .lost 2 [(.sc (.int .i64 (.ofNat 0))), (.sc (.int .i64 (.ofNat 1)))])⟩
theorem e162_ok : EntOk Tryz.prog Hd.G e162 := Hd.entry (l := [e153, e154, e155, e157, e158, e160, e161]) (m := 1000000) (AllOk.cons e153_ok (AllOk.cons e154_ok (AllOk.cons e155_ok (AllOk.cons e157_ok (AllOk.cons e158_ok (AllOk.cons e160_ok (AllOk.cons e161_ok Hd.none))))))) (by kernel_rfl) (by kernel_rfl)
def e163 : Ent := ⟨18, [(.agg [(.sl .lost 1 [(strL [97]), (strL [110, 117, 109, 98, 101, 114]), (.sc (.int .i64 (.ofNat 0)))]), (.sl .lost 1 [(strL [108]), (strL [69, 85, 82]), (.sc (.int .i64 (.ofNat 1)))]), k38])], none, (.tup [(.sl .full 0 []), (.sc (.bool false))])⟩
theorem e163_ok : EntOk Tryz.prog Hd.G e163 := Hd.entry (l := [e152, e156, e159, e162]) (m := 1000000) (AllOk.cons e152_ok (AllOk.cons e156_ok (AllOk.cons e159_ok (AllOk.cons e162_ok Hd.none)))) (by kernel_rfl) (by kernel_rfl)
def e164 : Ent := ⟨41, [(.agg [(.sc (.int .i64 (.ofNat 5))), (.sc (.int .i64 (.ofNat 0))), (strL [116, 114, 117, 116, 104]), (.sc (.int .i64 (.ofNat 0))), (.sl .full 0 []), (.sl .full 1 [(.sc (.int .i64 (.ofNat 8))), (.sc (.int .i64 (.ofNat 0))), (strL [116, 114, 117, 116, 104]), (.sc (.int .i64 (.ofNat 0))), (.sl .full 0 []), k34])]), (.agg [(.sc (.int .i64 (.ofNat 5))), (.sc (.int .i64 (.ofNat 0))), (strL [116, 114, 117, 116, 104]), (.sc (.int .i64 (.ofNat 0))), (.sl .full 0 []), (.sl .full 1 [(.sc (.int .i64 (.ofNat 8))), (.sc (.int .i64 (.ofNat 0))), (strL [116, 114, 117, 116, 104]), (.sc (.int .i64 (.ofNat 0))), (.sl .full 0 []), k39])])], none, (.sc (.bool true))⟩
theorem e164_ok : EntOk Tryz.prog Hd.G e164 := Hd.entry (l := []) (m := 1000000) Hd.none (by kernel_rfl) (by kernel_rfl)
def e165 : Ent := ⟨24, [(.agg [(.sl .lost 1 [(strL [97]), (strL [110, 117, 109, 98, 101, 114]), (.sc (.int .i64 (.ofNat 0)))]), (.sl .lost 1 [(strL [108]), (strL [69, 85, 82]), (.sc (.int .i64 (.ofNat 1)))]), k38]), (.sc (.int .i64 (.ofNat 0))), (.sc (.int .i64 (.ofNat 2)))], none, (.sc (.bool true))⟩
theorem e165_ok : EntOk Tryz.prog Hd.G e165 := Hd.entry (l := []) (m := 1000000) Hd.none (by kernel_rfl) (by kernel_rfl)
def e166 : Ent := ⟨27, [(.agg [(.sl .lost 1 [(strL [97]), (strL [110, 117, 109, 98, 101, 114]), (.sc (.int .i64 (.ofNat 0)))]), (.sl .lost 1 [(strL [108]), (strL [69, 85, 82]), (.sc (.int .i64 (.ofNat 1)))]), k38]), (.sc (.int .i64 (.ofNat 2)))], none, (.sl .lost 2 [(.sc (.int .i64 (.ofNat 0))), (.sc (.int .i64 (.ofNat 1)))])⟩
theorem e166_ok : EntOk Tryz.prog Hd.G e166 := Hd.entry (l := [e152, e156, e159, e162]) (m := 1000000) (AllOk.cons e152_ok (AllOk.cons e156_ok (AllOk.cons e159_ok (AllOk.cons e162_ok Hd.none)))) (by kernel_rfl) (by kernel_rfl)
def e167 : Ent := ⟨27, [(.agg [(.sl .lost 1 [(strL [97]), (strL [110, 117, 109, 98, 101, 114]), (.sc (.int .i64 (.ofNat 0)))]), (.sl .lost 1 [(strL [108]), (strL [69, 85, 82]), (.sc (.int .i64 (.ofNat 1)))]), k38]), (.sc (.int .i64 (.ofNat 1)))], none, (.sl .lost 1 [(.sc (.int .i64 (.ofNat 2)))])⟩
theorem e167_ok : EntOk Tryz.prog Hd.G e167 := Hd.entry (l := [e152, e156, e159, e162]) (m := 1000000) (AllOk.cons e152_ok (AllOk.cons e156_ok (AllOk.cons e159_ok (AllOk.cons e162_ok Hd.none)))) (by kernel_rfl) (by kernel_rfl)
def e168 : Ent := ⟨27, [(.agg [(.sl .lost 1 [(strL [97]), (strL [110, 117, 109, 98, 101, 114]), (.sc (.int .i64 (.ofNat 0)))]), (.sl .lost 1 [(strL [108]), (strL [69, 85, 82]), (.sc (.int .i64 (.ofNat 1)))]), k38]), (.sc (.int .i64 (.ofNat 0)))], none, (.sl .lost 1 [(.sc (.int .i64 (.ofNat 1)))])⟩
theorem e168_ok : EntOk Tryz.prog Hd.G e168 := Hd.entry (l := [e152, e156, e159, e162]) (m := 1000000) (AllOk.cons e152_ok (AllOk.cons e156_ok (AllOk.cons e159_ok (AllOk.cons e162_ok Hd.none)))) (by kernel_rfl) (by kernel_rfl)
def e169 : Ent := ⟨11, [], none, (.sc (.bool true))⟩
theorem e169_ok : EntOk Tryz.prog Hd.G e169 := Hd.entry (l := [e106, e134, e142, e147, e148, e149, e150, e151, e152, e153, e154, e155, e157, e158, e160, e161, e163, e164, e165, e166, e167, e168]) (m := 1000000) (AllOk.cons e106_ok (AllOk.cons e134_ok (AllOk.cons e142_ok (AllOk.cons e147_ok (AllOk.cons e148_ok (AllOk.cons e149_ok (AllOk.cons e150_ok (AllOk.cons e151_ok (AllOk.cons e152_ok (AllOk.cons e153_ok (AllOk.cons e154_ok (AllOk.cons e155_ok (AllOk.cons e157_ok (AllOk.cons e158_ok (AllOk.cons e160_ok (AllOk.cons e161_ok (AllOk.cons e163_ok (AllOk.cons e164_ok (AllOk.cons e165_ok (AllOk.cons e166_ok (AllOk.cons e167_ok (AllOk.cons e168_ok Hd.none)))))))))))))))))))))) (by kernel_rfl) (by kernel_rfl)
end Go.Proofs.YtnijkdknnmgoeaaGreat
