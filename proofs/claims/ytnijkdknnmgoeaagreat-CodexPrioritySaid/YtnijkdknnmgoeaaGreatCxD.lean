/- The codex as plain data: expressions, articles, and how they stand in memory. -/
import Derived.Test.YtnijkdknnmgoeaaGreatHdX
import Derived.Test.YtnijkdknnmgoeaaGreatAiw
namespace Go.Proofs.YtnijkdknnmgoeaaGreat
open AI Go

namespace Cx
noncomputable abbrev P : Program := Tryz.prog
abbrev G : Glob := Hd.G
noncomputable abbrev X : Exts := XS P G
theorem bsplit (b : Bool) : b = true ∨ b = false := by cases b <;> simp
theorem bnotT {b : Bool} (h : b = true) : (!b) = false := by rw [h]; rfl
theorem bnotF {b : Bool} (h : b = false) : (!b) = true := by rw [h]; rfl
theorem ltT {i n : Nat} (h : i < n) : ltI ((i : Nat) : Int) ((n : Nat) : Int) = true := by rw [ltI_eq]; simp; exact h
theorem ltF {i n : Nat} (h : ¬ i < n) : ltI ((i : Nat) : Int) ((n : Nat) : Int) = false := by rw [ltI_eq]; simp; omega
theorem inc {i : Nat} (h : i < 9223372036854775807) : wrapF .i64 (addI ((i : Nat) : Int) 1) = ((i + 1 : Nat) : Int) := by
  rw [wrapF_eq, addI_eq]
  have := wrap_nat (i := i + 1) (by omega)
  rw [← this]; rfl
theorem eqI_iff {a b : Int} : eqI a b = true ↔ a = b := by rw [eqI_eq]; simp
theorem eqI_T {a b : Int} (h : eqI a b = true) : a = b := eqI_iff.1 h
theorem eqI_F {a b : Int} (h : eqI a b = false) : a ≠ b := fun e => by rw [eqI_iff.2 e] at h; cases h
theorem eqB_T {a b : ByteArray} (h : eqB a.data.toList b.data.toList = true) : a = b := by
  rw [eqB_eq] at h
  exact ByteArray.ext (Array.ext' (eq_of_beq h))
theorem eqB_F {a b : ByteArray} (h : eqB a.data.toList b.data.toList = false) : a ≠ b := fun e => by
  subst e
  rw [eqB_eq] at h
  simp at h
theorem leI_T {a b : Int} (h : leI a b = true) : a ≤ b := by rw [leI_eq] at h; exact of_decide_eq_true h
theorem leI_F {a b : Int} (h : leI a b = false) : b < a := by rw [leI_eq] at h; have := of_decide_eq_false h; omega
theorem ltI_T {a b : Int} (h : ltI a b = true) : a < b := by rw [ltI_eq] at h; exact of_decide_eq_true h
theorem ltI_F {a b : Int} (h : ltI a b = false) : b ≤ a := by rw [ltI_eq] at h; have := of_decide_eq_false h; omega
/-- are they the same? -/
noncomputable def sm {α : Type} (a b : α) : Bool := @decide (a = b) (Classical.propDecidable _)
theorem sm_T {α : Type} {a b : α} (h : a = b) : sm a b = true := by unfold sm; exact @decide_eq_true _ (_) h
theorem sm_F {α : Type} {a b : α} (h : a ≠ b) : sm a b = false := by unfold sm; exact @decide_eq_false _ (_) h
theorem sm_iff {α : Type} {a b : α} : sm a b = true ↔ a = b := ⟨fun h => by unfold sm at h; exact @of_decide_eq_true _ (_) h, sm_T⟩
theorem sm_not {α : Type} {a b : α} (h : sm a b = false) : a ≠ b := fun e => by rw [sm_T e] at h; cases h
theorem retB {b c : Bool} (h : b = c) : CR.ret (.sc (.bool b)) = CR.ret (.sc (.bool c)) := by rw [h]

structure Pc where
  a : Int
  b : Int
  c : Int
inductive Ex where
  | mk (op n : Int) (u : ByteArray) (d : Int) (ps : List Pc) (ks : List Ex)
def inC (x : Int) : List AV := [.sc (.int .i64 x)]
def pcC (p : Pc) : List AV := [.sc (.int .i64 p.a), .sc (.int .i64 p.b), .sc (.int .i64 p.c)]
mutual
def exC : Ex → List AV
  | .mk op n u d ps ks => [.sc (.int .i64 op), .sc (.int .i64 n), .sc (.string u), .sc (.int .i64 d), .sl .lost ps.length (rows pcC ps), .sl .lost ks.length (exsC ks)]
def exsC : List Ex → List AV
  | [] => []
  | k :: ks => exC k ++ exsC ks
end
theorem exsC_eq (ks : List Ex) : exsC ks = rows exC ks := by
  induction ks with
  | nil => rfl
  | cons k ks ih => rw [rows_cons, exsC, ih]
theorem exC_len (e : Ex) : (exC e).length = 6 := by cases e; rfl
theorem plainL_app {a b : List AV} (ha : plainL a = true) (hb : plainL b = true) : plainL (a ++ b) = true := by
  induction a with
  | nil => exact hb
  | cons x a ih =>
    simp only [plainL, Bool.and_eq_true, List.cons_append] at ha ⊢
    exact ⟨ha.1, ih ha.2⟩
theorem inC_plain (l : List Int) : plainL (rows inC l) = true := rows_plain (fun _ _ => rfl)
theorem pcC_plain (l : List Pc) : plainL (rows pcC l) = true := rows_plain (fun _ _ => rfl)
mutual
theorem exC_plain : ∀ e : Ex, plainL (exC e) = true
  | .mk op n u d ps ks => by
    simp only [exC, plainL, plain, Bool.and_true, pcC_plain ps, exsC_plain ks]
theorem exsC_plain : ∀ ks : List Ex, plainL (exsC ks) = true
  | [] => rfl
  | k :: ks => by rw [exsC]; exact plainL_app (exC_plain k) (exsC_plain ks)
end
def M : Nat := 9223372036854775807
mutual
def exOk : Ex → Prop
  | .mk _ _ _ _ ps ks => ps.length ≤ 9223372036854775807 ∧ ks.length ≤ 9223372036854775807 ∧ exsOk ks
def exsOk : List Ex → Prop
  | [] => True
  | k :: ks => exOk k ∧ exsOk ks
end
theorem exsOk_get {ks : List Ex} (h : exsOk ks) {i : Nat} {k : Ex} (e : ks[i]? = some k) : exOk k := by
  induction ks generalizing i with
  | nil => simp at e
  | cons x ks ih =>
    rw [exsOk] at h
    cases i with
    | zero => simp at e; subst e; exact h.1
    | succ i => exact ih h.2 (by simpa using e)
structure Ar where
  number : Int
  line : Int
  rank : Int
  fr : Int
  to : Int
  known : Int
  wh : List Ex
  un : List Int
  am : Ex
def arC (a : Ar) : List AV := [.sc (.int .i64 a.number), .sc (.int .i64 a.line), .sc (.int .i64 a.rank), .sc (.int .i64 a.fr), .sc (.int .i64 a.to), .sc (.int .i64 a.known), .sl .lost a.wh.length (exsC a.wh), .sl .lost a.un.length (rows inC a.un)] ++ exC a.am
theorem arC_len (a : Ar) : (arC a).length = 14 := by simp [arC, exC_len]
theorem arC_plain (l : List Ar) : plainL (rows arC l) = true := rows_plain (fun a _ => plainL_app (by simp only [plainL, plain, exsC_plain, inC_plain]; rfl) (exC_plain a.am))
def arOk (a : Ar) : Prop := a.wh.length ≤ 9223372036854775807 ∧ exsOk a.wh ∧ a.un.length ≤ 9223372036854775807 ∧ exOk a.am
structure Dc where
  name : ByteArray
  unit : ByteArray
  role : Int
def dcC (d : Dc) : List AV := [.sc (.string d.name), .sc (.string d.unit), .sc (.int .i64 d.role)]
theorem dcC_plain (l : List Dc) : plainL (rows dcC l) = true := rows_plain (fun _ _ => rfl)
structure Co where
  facts : List Dc
  lines : List Dc
  arts : List Ar
def Co.ok (c : Co) : Prop := c.facts.length ≤ 9223372036854775807 ∧ c.lines.length ≤ 9223372036854775807 ∧ c.arts.length ≤ 9223372036854775807 ∧ ∀ a ∈ c.arts, arOk a
def coC (c : Co) : List AV := [.sl .lost c.facts.length (rows dcC c.facts), .sl .lost c.lines.length (rows dcC c.lines), .sl .lost c.arts.length (rows arC c.arts)]
theorem coC_plain (c : Co) : plainL (coC c) = true := by simp only [coC, plainL, plain, dcC_plain, arC_plain]; rfl

theorem u40 : P.underlying 40 = some (.slice 3) := by kernel_rfl
theorem u58 : P.underlying 58 = some (.slice 60) := by kernel_rfl
theorem u22 : P.underlying 22 = some (.slice 138) := by kernel_rfl
theorem u29 : P.underlying 29 = some (.slice 62) := by kernel_rfl
theorem sz {t : Nat} {n : Nat} (h : (P.info? t).map (·.size) = some n) : ∃ e, P.info? t = some e ∧ e.size = n := by
  cases hi : P.info? t with
  | none => rw [hi] at h; cases h
  | some e => rw [hi] at h; exact ⟨e, rfl, by simpa using h⟩
theorem s3 : (P.info? 3).map (·.size) = some 1 := by kernel_rfl
theorem s60 : (P.info? 60).map (·.size) = some 6 := by kernel_rfl
theorem s138 : (P.info? 138).map (·.size) = some 3 := by kernel_rfl
theorem s62 : (P.info? 62).map (·.size) = some 14 := by kernel_rfl
theorem ix40 {own : Own} {l : List Int} {i : Nat} {x : Int} (h : l[i]? = some x) : aindexAt P 40 (.sl own l.length (rows inC l)) (.sc (.int .i64 ((i : Nat) : Int))) = some (.el (inC x ++ rows inC (l.drop (i + 1)))) := by
  obtain ⟨e, h1, h2⟩ := sz s3
  exact index_rows u40 h1 h2 (fun _ => rfl) h
theorem ix22 {own : Own} {l : List Pc} {i : Nat} {x : Pc} (h : l[i]? = some x) : aindexAt P 22 (.sl own l.length (rows pcC l)) (.sc (.int .i64 ((i : Nat) : Int))) = some (.el (pcC x ++ rows pcC (l.drop (i + 1)))) := by
  obtain ⟨e, h1, h2⟩ := sz s138
  exact index_rows u22 h1 h2 (fun _ => rfl) h
theorem ix29 {own : Own} {l : List Ar} {i : Nat} {x : Ar} (h : l[i]? = some x) : aindexAt P 29 (.sl own l.length (rows arC l)) (.sc (.int .i64 ((i : Nat) : Int))) = some (.el (arC x ++ rows arC (l.drop (i + 1)))) := by
  obtain ⟨e, h1, h2⟩ := sz s62
  exact index_rows u29 h1 h2 arC_len h
theorem ix58 {own : Own} {l : List Ex} {i : Nat} {x : Ex} (h : l[i]? = some x) : aindexAt P 58 (.sl own l.length (exsC l)) (.sc (.int .i64 ((i : Nat) : Int))) = some (.el (exC x ++ exsC (l.drop (i + 1)))) := by
  obtain ⟨e, h1, h2⟩ := sz s60
  rw [exsC_eq, exsC_eq]
  exact index_rows u58 h1 h2 exC_len h
theorem un {n m : Nat} {a : AV} (h : plain a = true) : under n m a = true := under_plain n m h
theorem unL {n m : Nat} {a : List AV} (h : plainL a = true) : underL n m a = true := under_plainL n m h
theorem pin (l : List Int) : plain (.sl .lost l.length (rows inC l)) = true := by simp only [plain, inC_plain]; rfl
theorem ppc (l : List Pc) : plain (.sl .lost l.length (rows pcC l)) = true := by simp only [plain, pcC_plain]; rfl
theorem pex (l : List Ex) : plain (.sl .lost l.length (exsC l)) = true := by simp only [plain, exsC_plain]; rfl
theorem par (l : List Ar) : plain (.sl .lost l.length (rows arC l)) = true := by simp only [plain, arC_plain]; rfl
theorem plain2 {a b : AV} (h : plain a = true) (k : plain b = true) : plainL [a, b] = true := by simp only [plainL, h, k]; rfl
theorem pcneB {x y : Operand} {a1 a2 a3 b1 b2 b3 : Int} {b : Bool} (h : sm (⟨a1, a2, a3⟩ : Pc) ⟨b1, b2, b3⟩ = b) : abin P .neq 138 x y (.agg [.sc (.int .i64 a1), .sc (.int .i64 a2), .sc (.int .i64 a3)]) (.agg [.sc (.int .i64 b1), .sc (.int .i64 b2), .sc (.int .i64 b3)]) = some (.sc (.bool (!b))) := by
  rw [ne3m (n1 := "From") (n2 := "At") (n3 := "Slope") (i := 3) (by kernel_rfl) (by kernel_rfl) (by kernel_rfl) (by kernel_rfl) (by kernel_rfl) (by decide)]
  have : (a1 == b1 && a2 == b2 && a3 == b3) = b := by
    subst h
    rw [Bool.eq_iff_iff, sm_iff]
    simp [Pc.mk.injEq, and_assoc]
  rw [this]
theorem pcne {x y : Operand} {a1 a2 a3 b1 b2 b3 : Int} (h : sm (⟨a1, a2, a3⟩ : Pc) ⟨b1, b2, b3⟩ = true) : abin P .neq 138 x y (.agg [.sc (.int .i64 a1), .sc (.int .i64 a2), .sc (.int .i64 a3)]) (.agg [.sc (.int .i64 b1), .sc (.int .i64 b2), .sc (.int .i64 b3)]) = some (.sc (.bool false)) := pcneB h
theorem pcneF {x y : Operand} {a1 a2 a3 b1 b2 b3 : Int} (h : sm (⟨a1, a2, a3⟩ : Pc) ⟨b1, b2, b3⟩ = false) : abin P .neq 138 x y (.agg [.sc (.int .i64 a1), .sc (.int .i64 a2), .sc (.int .i64 a3)]) (.agg [.sc (.int .i64 b1), .sc (.int .i64 b2), .sc (.int .i64 b3)]) = some (.sc (.bool true)) := pcneB h
theorem exA (e : Ex) : plain (.agg (exC e)) = true := exC_plain e
/-- a known call with a known truth -/
theorem callB {f : FuncId} {args : List AV} {B b : Bool} (h : Pure P G f args (.sc (.bool B))) (e : B = b) {s : AS} : Sound P G (.call f args s (.ret (.sc (.bool b))) s) := by
  subst e; exact h s
end Cx
end Go.Proofs.YtnijkdknnmgoeaaGreat
