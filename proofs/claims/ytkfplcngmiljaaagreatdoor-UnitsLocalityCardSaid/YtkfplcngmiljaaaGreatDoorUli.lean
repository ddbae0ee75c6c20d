/- Part of a proof: see the last text. -/
import Derived.Test.YtkfplcngmiljaaaGreatDoorUlh
import Derived.Test.YtkfplcngmiljaaaGreatDoorProg
import Derived.KernelRfl
set_option linter.unusedVariables false
set_option linter.unusedSimpArgs false
namespace Go.Proofs.YtkfplcngmiljaaaGreatDoor
open AI Go
namespace Hd
def G : Glob := fun _ => none
theorem mixed : Tryz.prog.follows .mixedOrders = true := by kernel_rfl
theorem plainG (g : Nat) (cs : List AV) (h : G g = some cs) : plainL cs = true := by cases h
end Hd
end Go.Proofs.YtkfplcngmiljaaaGreatDoor
namespace Go.Proofs.YtkfplcngmiljaaaGreatDoor
open AI Go
namespace Mo
noncomputable abbrev P : Program := Tryz.prog
abbrev G : Glob := Hd.G
noncomputable abbrev X : Exts := XS P G
variable {G0 : Glob}
theorem ltT {i n : Nat} (h : i < n) : ltI ((i : Nat) : Int) ((n : Nat) : Int) = true := by rw [ltI_eq]; simp; exact h
theorem ltF {i n : Nat} (h : n ≤ i) : ltI ((i : Nat) : Int) ((n : Nat) : Int) = false := by rw [ltI_eq]; simp; omega
theorem eqI_T {a b : Int} (h : eqI a b = true) : a = b := by rw [eqI_eq] at h; simpa using h
theorem ltI_T {a b : Int} (h : ltI a b = true) : a < b := by rw [ltI_eq] at h; exact of_decide_eq_true h
theorem ltI_F {a b : Int} (h : ltI a b = false) : b ≤ a := by rw [ltI_eq] at h; have := of_decide_eq_false h; omega
theorem cndI {β : Type} {b : Bool} {t f : Option β} {r : β} {X : Prop} (h1 : b = true → t = some r → X) (h2 : b = false → f = some r → X) : cond b t f = some r → X := fun h => (cndE h).elim (fun x => h1 x.1 x.2) fun x => h2 x.1 x.2
theorem bndI {β κ : Type} {m : Option κ} {k : κ → Option β} {r : β} {X : Prop} (h1 : ∀ y, m = some y → k y = some r → X) : m.bind k = some r → X := fun h => (bndE h).elim fun y x => h1 y x.1 x.2
theorem limAI {β : Type} {n : Nat} {x : Option β} {r : β} {X : Prop} (h1 : n ≤ 100000000 → x = some r → X) : limA n x = some r → X := fun h => h1 (limAE h).1 (limAE h).2
theorem nonI {β : Type} {r : β} {X : Prop} : (none : Option β) = some r → X := fun h => nomatch h
theorem eqI_f {a b : Int} (h : a ≠ b) : eqI a b = false := by rw [eqI_eq]; simpa using h
theorem ltI_t {a b : Int} (h : a < b) : ltI a b = true := by rw [ltI_eq]; exact decide_eq_true h
theorem ltI_f {a b : Int} (h : b ≤ a) : ltI a b = false := by rw [ltI_eq]; exact decide_eq_false (by omega)
def fq {n m : Nat} {a : AV} (h : plain a = true) : FP n m := ⟨a, a, .plain h⟩
def fp {n m : Nat} (a : AV) (h : plain a = true) : FP n m := ⟨a, a, .plain h⟩
def fbp {n m : Nat} (a : List AV) (h : plainL a = true) : FB n m := ⟨.cells a, .cells a, .cells (.plain h)⟩
def fbu {n m : Nat} (a : List AV) (h : underL n m a = true) : FB n m := ⟨.cells a, .cells a, .cells (.under h)⟩
theorem plSl {n : Nat} {l : List AV} (h : plainL l = true) : plain (.sl .lost n l) = true := by simp only [plain, h]; rfl
theorem plSlF {n : Nat} {l : List AV} (h : plainL l = true) : plain (.sl .full n l) = true := by simp only [plain, h]; rfl
theorem unSl {n m r sz k : Nat} {l : List AV} (h : decide (r < m) = true) (t : underL n m l = true) : under n m (.sl (.row r sz) k l) = true := by simp only [under, h, t]; rfl
theorem unFn {n m : Nat} {f : Go.Fn} {a l : List AV} (h : underL n m a = true) (k : underL n m l = true) : under n m (.fn f a l) = true := by simp only [under, h, k]; rfl
def inC (x : Int) : List AV := [.sc (.int .i64 x)]
def stC (x : ByteArray) : List AV := [.sc (.string x)]
theorem layStr : Lay stC (rows stC) 1 := ⟨fun _ => rfl, fun _ => rfl, fun _ => rfl⟩
structure Pc where
 fr : Int
 att : Int
 slope : Int
def pcC (x : Pc) : List AV := [.sc (.int .i64 x.fr), .sc (.int .i64 x.att), .sc (.int .i64 x.slope)]
theorem layPc : Lay pcC (rows pcC) 3 := ⟨fun _ => rfl, fun _ => rfl, fun x => (plC rfl (plC rfl (plC rfl rfl)))⟩
structure Fn where
 den : Int
 ps : (List Pc)
def fnC (x : Fn) : List AV := [.sc (.int .i64 x.den), .sl .lost x.ps.length (rows pcC x.ps)]
theorem layFn : Lay fnC (rows fnC) 2 := ⟨fun _ => rfl, fun _ => rfl, fun x => (plC rfl (plC (layPc.plS x.ps) rfl))⟩
structure Nd where
 kind : Int
 name : ByteArray
 unit : ByteArray
 n : Int
 fr : Int
 to : Int
 known : Int
 tab : Fn
 kids : (List Nd)
 att : Int
mutual
def ndK : Nd → List AV
 | ⟨kind, name, unit, n, fr, to, known, tab, kids, att⟩ => [.sc (.int .i64 kind), .sc (.string name), .sc (.string unit), .sc (.int .i64 n), .sc (.int .i64 fr), .sc (.int .i64 to), .sc (.int .i64 known), .sc (.int .i64 tab.den), .sl .lost tab.ps.length (rows pcC tab.ps), .sl .lost kids.length (ndsC kids), .sc (.int .i64 att)]
def ndsC : List Nd → List AV
 | [] => []
 | k :: ks => ndK k ++ ndsC ks
end
def ndC (x : Nd) : List AV := [.sc (.int .i64 x.kind), .sc (.string x.name), .sc (.string x.unit), .sc (.int .i64 x.n), .sc (.int .i64 x.fr), .sc (.int .i64 x.to), .sc (.int .i64 x.known), .sc (.int .i64 x.tab.den), .sl .lost x.tab.ps.length (rows pcC x.tab.ps), .sl .lost x.kids.length (ndsC x.kids), .sc (.int .i64 x.att)]
theorem ndK_eq (x : Nd) : ndK x = ndC x := by cases x; rfl
theorem ndsC_eq (l : List Nd) : ndsC l = rows ndC l := by
 induction l with
 | nil => rfl
 | cons k ks ih => rw [rows_cons, ndsC, ih, ndK_eq]
mutual
theorem ndK_pl : ∀ x : Nd, plainL (ndK x) = true
 | ⟨kind, name, unit, n, fr, to, known, tab, kids, att⟩ => by rw [ndK]; exact (plC rfl (plC rfl (plC rfl (plC rfl (plC rfl (plC rfl (plC rfl (plC rfl (plC (layPc.plS tab.ps) (plC (plSl (ndsC_pl kids)) (plC rfl rfl)))))))))))
theorem ndsC_pl : ∀ l : List Nd, plainL (ndsC l) = true
 | [] => rfl
 | k :: ks => by rw [ndsC]; exact plApp (ndK_pl k) (ndsC_pl ks)
end
theorem layNd : Lay ndC ndsC 11 := ⟨ndsC_eq, fun _ => rfl, fun x => by rw [← ndK_eq]; exact ndK_pl x⟩
structure Ex where
 op : Int
 n : Int
 unit : ByteArray
 tab : Fn
 kids : (List Ex)
mutual
def exK : Ex → List AV
 | ⟨op, n, unit, tab, kids⟩ => [.sc (.int .i64 op), .sc (.int .i64 n), .sc (.string unit), .sc (.int .i64 tab.den), .sl .lost tab.ps.length (rows pcC tab.ps), .sl .lost kids.length (exsC kids)]
def exsC : List Ex → List AV
 | [] => []
 | k :: ks => exK k ++ exsC ks
end
mutual
theorem exK_pl : ∀ x : Ex, plainL (exK x) = true
 | ⟨op, n, unit, tab, kids⟩ => by rw [exK]; exact (plC rfl (plC rfl (plC rfl (plC rfl (plC (layPc.plS tab.ps) (plC (plSl (exsC_pl kids)) rfl))))))
theorem exsC_pl : ∀ l : List Ex, plainL (exsC l) = true
 | [] => rfl
 | k :: ks => by rw [exsC]; exact plApp (exK_pl k) (exsC_pl ks)
end
structure Ar where
 number : Int
 line : Int
 rank : Int
 fr : Int
 to : Int
 known : Int
 wh : (List Ex)
 un : (List Int)
 am : Ex
structure Dc where
 name : ByteArray
 unit : ByteArray
 role : Int
structure Co where
 facts : (List Dc)
 lines : (List Dc)
 arts : (List Ar)
structure Tk where
 kind : Int
 text : ByteArray
 att : Int
structure Dg where
 err : Int
 att : Int
def dgC (x : Dg) : List AV := [.sc (.int .i64 x.err), .sc (.int .i64 x.att)]
theorem layDg : Lay dgC (rows dgC) 2 := ⟨fun _ => rfl, fun _ => rfl, fun x => (plC rfl (plC rfl rfl))⟩
structure Ps where
 l : (List Tk)
 at_ : Int
 end_ : Int
 err : Int
 errAt : Int
structure Ck where
 nodes : Int
def ckC (x : Ck) : List AV := [.sc (.int .i64 x.nodes)]
theorem layCk : Lay ckC (rows ckC) 1 := ⟨fun _ => rfl, fun _ => rfl, fun x => (plC rfl rfl)⟩
structure Cq where
 src : Nd
 diags : (List Dg)
structure Ft where
 codex : Co
 lines : (Mm Int Int)
 nodes : Int
structure Sc where
 facts : (Mm ByteArray ByteArray)
 lines : (Mm ByteArray ByteArray)
 articles : (Mm Int ByteArray)
structure Tr where
 codex : Co
 facts : (Mm ByteArray Int)
 lines : (Mm ByteArray Int)
 articles : (Mm Int Int)
theorem u22 : P.underlying 22 = some (.slice 80) := by kernel_rfl
theorem s80 : (P.info? 80).map (·.size) = some 3 := by kernel_rfl
theorem ix22 (own : Own) {l : List Pc} {i : Nat} {x : Pc} (h : l[i]? = some x) : aindexAt P 22 (.sl own l.length (rows pcC l)) (.sc (.int .i64 ((i : Nat) : Int))) = some (.el (pcC x ++ rows pcC (l.drop (i + 1)))) := layPc.ix u22 s80 own h
theorem ixz22 (own : Own) {l : List Pc} {z : Int} {x : Pc} (h : geti l z = some x) : aindexAt P 22 (.sl own l.length (rows pcC l)) (.sc (.int .i64 z)) = some (.el (pcC x ++ rows pcC (l.drop (z.toNat + 1)))) := layPc.ixz u22 s80 own h
theorem u25 : P.underlying 25 = some (.slice 27) := by kernel_rfl
theorem s27 : (P.info? 27).map (·.size) = some 11 := by kernel_rfl
theorem i27 : (P.info? 27).map (fun i => (i.size, i.bytes, i.zero.map (·.cells.size))) = some (11, 136, some 11) := by kernel_rfl
theorem ix25 (own : Own) {l : List Nd} {i : Nat} {x : Nd} (h : l[i]? = some x) : aindexAt P 25 (.sl own l.length (ndsC l)) (.sc (.int .i64 ((i : Nat) : Int))) = some (.el (ndC x ++ ndsC (l.drop (i + 1)))) := layNd.ix u25 s27 own h
theorem gro25 (own : Own) (l m : List Nd) {o : Own} {n : Nat} {ns : List AV} (hn : Wn ns (ndsC m)) (hnn : n = m.length) (ho : ns.all one = true) (hm : m.length ≠ 0) (hlen : l.length + m.length ≤ 100000000) : Cd.ok P G0 (.gro 25 25 own l.length (ndsC l) (.sl o n ns) 11 (l ++ m).length (ndsC (l ++ m))) := layNd.gro u25 u25 i27 (by decide) (by decide) own l m hn hnn ho hm hlen
theorem u30 : P.underlying 30 = some (.slice 53) := by kernel_rfl
theorem s53 : (P.info? 53).map (·.size) = some 2 := by kernel_rfl
theorem i53 : (P.info? 53).map (fun i => (i.size, i.bytes, i.zero.map (·.cells.size))) = some (2, 16, some 2) := by kernel_rfl
theorem ix30 (own : Own) {l : List Dg} {i : Nat} {x : Dg} (h : l[i]? = some x) : aindexAt P 30 (.sl own l.length (rows dgC l)) (.sc (.int .i64 ((i : Nat) : Int))) = some (.el (dgC x ++ rows dgC (l.drop (i + 1)))) := layDg.ix u30 s53 own h
theorem gro30 (own : Own) (l m : List Dg) {o : Own} {n : Nat} {ns : List AV} (hn : Wn ns (rows dgC m)) (hnn : n = m.length) (ho : ns.all one = true) (hm : m.length ≠ 0) (hlen : l.length + m.length ≤ 100000000) : Cd.ok P G0 (.gro 30 30 own l.length (rows dgC l) (.sl o n ns) 2 (l ++ m).length (rows dgC (l ++ m))) := layDg.gro u30 u30 i53 (by decide) (by decide) own l m hn hnn ho hm hlen
theorem u96 : P.underlying 96 = some (.slice 9) := by kernel_rfl
theorem s9 : (P.info? 9).map (·.size) = some 1 := by kernel_rfl
theorem ix96 (own : Own) {l : List ByteArray} {i : Nat} {x : ByteArray} (h : l[i]? = some x) : aindexAt P 96 (.sl own l.length (rows stC l)) (.sc (.int .i64 ((i : Nat) : Int))) = some (.el (stC x ++ rows stC (l.drop (i + 1)))) := layStr.ix u96 s9 own h
theorem ixm96 {id n i : Nat} (h : i < n) : aindexAt P 96 (.msl id 0 n) (.sc (.int .i64 ((i : Nat) : Int))) = some (.ptr id (0 + i * 1)) := layStr.ixm u96 s9 h
theorem ixmz96 {id n i : Nat} {z : Int} (h : idxN n z = some i) : aindexAt P 96 (.msl id 0 n) (.sc (.int .i64 z)) = some (.ptr id (0 + i * 1)) := layStr.ixmz u96 s9 h
theorem ldm96 {l : List ByteArray} {i : Nat} {x : ByteArray} (h : l[i]? = some x) : Cd.ok P G0 (.ldB (.cells (rows stC l)) 9 (0 + i * 1) (.sc (.string x))) := layStr.ld1 (by kernel_rfl) s9 h rfl
theorem stm96 {l : List ByteArray} {i : Nat} {x : ByteArray} (h : l[i]? = some x) (y : ByteArray) : Cd.ok P G0 (.stB (.cells (rows stC l)) 9 (0 + i * 1) (.sc (.string y)) (.cells (rows stC (l.set i y)))) := layStr.st s9 h y rfl rfl
theorem mkm96 {n : Nat} (hn : n ≤ 16777216) : Cd.ok P G0 (.mkB 96 (.sc (.int .i64 ((n : Nat) : Int))) (.sc (.int .i64 ((n : Nat) : Int))) n (.cells (rows stC (List.replicate n ByteArray.empty)))) := layStr.made u96 (by kernel_rfl) (by decide) hn
def wquo (x y : Int) : Int := IntKind.i64.wrap (x.tdiv y)
def wrem (x y : Int) : Int := x.tmod y
def dquo (x y : Int) : Option Int := if y = 0 then none else some (wquo x y)
def drem (x y : Int) : Option Int := if y = 0 then none else some (wrem x y)
def subl {α : Type} (s : List α) (l h : Int) : Option (List α) := if 0 ≤ l ∧ l ≤ h ∧ h ≤ ((s.length : Nat) : Int) then some ((s.drop l.toNat).take (h.toNat - l.toNat)) else none
theorem anat_i (z : Int) (h : 0 ≤ z) : anat (.sc (.int .i64 z)) = some z.toNat := by unfold anat; simp [h]
theorem quo_ok3 {a b c : Int} (h : dquo a b = some c) (x y : Operand) : abin P .quo 3 x y (.sc (.int .i64 a)) (.sc (.int .i64 b)) = some (.sc (.int .i64 c)) := by
 unfold dquo at h
 split at h
 · cases h
 · rename_i hb
   cases h
   simp [abin, toVal, eqGuard, binOp, Op.intDiv, hb, AI.pv, scal, scalar, wquo, Bind.bind, Sem.bind, Pure.pure]
theorem rem_ok3 {a b c : Int} (h : drem a b = some c) (x y : Operand) : abin P .rem 3 x y (.sc (.int .i64 a)) (.sc (.int .i64 b)) = some (.sc (.int .i64 c)) := by
 unfold drem at h
 split at h
 · cases h
 · rename_i hb
   cases h
   simp [abin, toVal, eqGuard, binOp, Op.intDiv, hb, AI.pv, scal, scalar, wrem, Bind.bind, Sem.bind, Pure.pure]
theorem us9 : P.underlying 9 = some .string := by kernel_rfl
theorem ixb9 {s : ByteArray} {i : Nat} {c : UInt8} (h : s.data.toList[i]? = some c) : aindex P 9 (.sc (.string s)) (.sc (.int .i64 ((i : Nat) : Int))) = some (.sc (.int .u8 ((c.toNat : Nat) : Int))) := by
 unfold aindex
 rw [us9, anat_i _ (by omega)]
 simp only [Int.toNat_natCast, h]
theorem subl25_ (l h : Nat) {s : List Nd} (h1 : l ≤ h) (h2 : h ≤ s.length) (lo hi : Option AV) (e1 : abound 0 lo = some l) (e2 : abound s.length hi = some h) : aslice P 25 (.sl .lost s.length (ndsC s)) lo hi none = some (.sl .lost ((s.drop l).take (h - l)).length (ndsC ((s.drop l).take (h - l)))) := layNd.sub u25 s27 l h h1 h2 lo hi e1 e2
theorem sublL25 {s v : List Nd} {l : Int} (e : subl s l ((s.length : Nat) : Int) = some v) : aslice P 25 (.sl .lost s.length (ndsC s)) (some (.sc (.int .i64 l))) (none) none = some (.sl .lost v.length (ndsC v)) := by
 unfold subl at e
 split at e
 · rename_i hc
   cases e
   exact subl25_ _ _ (by omega) (by omega) _ _ (anat_i l hc.1) rfl
 · cases e
def samePc (x y : Pc) : Bool := x.fr == y.fr && (x.att == y.att && (x.slope == y.slope))
theorem samePc_all (x y : Pc) : all2 [.int .i64 x.fr, .int .i64 x.att, .int .i64 x.slope] [.int .i64 y.fr, .int .i64 y.att, .int .i64 y.slope] = some (samePc x y) := by
 simp only [all2, fEq, samePc, if_true, Option.bind_some]
 cases (x.fr == y.fr) <;> cases (x.att == y.att) <;> cases (x.slope == y.slope) <;> rfl
theorem flat80 : Flat P 80 [1, 1, 1] := ⟨by kernel_rfl, by kernel_rfl, by kernel_rfl, by kernel_rfl, by kernel_rfl, by kernel_rfl⟩
theorem neq80 {x y : Pc} {b : Bool} (h : samePc x y = b) (ox oy : Operand) : abin P .neq 80 ox oy (.agg (pcC x)) (.agg (pcC y)) = some (.sc (.bool (!b))) := by
 subst h
 exact (flat80.bin (us := [.int .i64 x.fr, .int .i64 x.att, .int .i64 x.slope]) (vs := [.int .i64 y.fr, .int .i64 y.att, .int .i64 y.slope]) ⟨.inl ⟨_, rfl, rfl⟩, ⟨.inl ⟨_, rfl, rfl⟩, ⟨.inl ⟨_, rfl, rfl⟩, trivial⟩⟩⟩ ⟨.inl ⟨_, rfl, rfl⟩, ⟨.inl ⟨_, rfl, rfl⟩, ⟨.inl ⟨_, rfl, rfl⟩, trivial⟩⟩⟩ (samePc_all x y) ox oy).2
def sameDg (x y : Dg) : Bool := x.err == y.err && (x.att == y.att)
theorem sameDg_all (x y : Dg) : all2 [.int .i64 x.err, .int .i64 x.att] [.int .i64 y.err, .int .i64 y.att] = some (sameDg x y) := by
 simp only [all2, fEq, sameDg, if_true, Option.bind_some]
 cases (x.err == y.err) <;> cases (x.att == y.att) <;> rfl
theorem flat53 : Flat P 53 [1, 1] := ⟨by kernel_rfl, by kernel_rfl, by kernel_rfl, by kernel_rfl, by kernel_rfl, by kernel_rfl⟩
theorem neq53 {x y : Dg} {b : Bool} (h : sameDg x y = b) (ox oy : Operand) : abin P .neq 53 ox oy (.agg (dgC x)) (.agg (dgC y)) = some (.sc (.bool (!b))) := by
 subst h
 exact (flat53.bin (us := [.int .i64 x.err, .int .i64 x.att]) (vs := [.int .i64 y.err, .int .i64 y.att]) ⟨.inl ⟨_, rfl, rfl⟩, ⟨.inl ⟨_, rfl, rfl⟩, trivial⟩⟩ ⟨.inl ⟨_, rfl, rfl⟩, ⟨.inl ⟨_, rfl, rfl⟩, trivial⟩⟩ (sameDg_all x y) ox oy).2
def mbss (m : Mm ByteArray ByteArray) : ABlk := mB (fun n => .string n) (fun n => .sc (.string n)) m
theorem um40 : P.underlying 40 = some (.map 9 9) := by kernel_rfl
theorem uk40 : P.underlying 9 = some (.string) := by kernel_rfl
theorem az40 : azero P 9 = some (.sc (.string ByteArray.empty)) := by kernel_rfl
theorem lk40 (m : Mm ByteArray ByteArray) (k : ByteArray) : Cd.ok P G0 (.lkB (mbss m) 40 (.sc (.string k)) false (.sc (.string ((m.get k).getD ByteArray.empty)))) := mm_lk (vv := (fun n => .sc (.string n))) um40 uk40 kStr (z := ByteArray.empty) az40 m k
theorem lkT40 (m : Mm ByteArray ByteArray) (k : ByteArray) {b : Bool} (h : (m.get k).isSome = b) : Cd.ok P G0 (.lkB (mbss m) 40 (.sc (.string k)) true (.tup [.sc (.string ((m.get k).getD ByteArray.empty)), .sc (.bool b)])) := mm_lkT (vv := (fun n => .sc (.string n))) um40 uk40 kStr (z := ByteArray.empty) az40 m k h
theorem ms40 (m : Mm ByteArray ByteArray) (k : ByteArray) (v : ByteArray) : Cd.ok P G0 (.msB (mbss m) 40 (.sc (.string k)) (.sc (.string v)) (mbss (m.set k v))) := mm_ms (vv := (fun n => .sc (.string n))) um40 uk40 kStr m k v
def mbis (m : Mm Int ByteArray) : ABlk := mB (fun n => .int .i64 n) (fun n => .sc (.string n)) m
theorem um58 : P.underlying 58 = some (.map 3 9) := by kernel_rfl
theorem uk58 : P.underlying 3 = some ((.int .i64)) := by kernel_rfl
theorem az58 : azero P 9 = some (.sc (.string ByteArray.empty)) := by kernel_rfl
theorem lk58 (m : Mm Int ByteArray) (k : Int) : Cd.ok P G0 (.lkB (mbis m) 58 (.sc (.int .i64 k)) false (.sc (.string ((m.get k).getD ByteArray.empty)))) := mm_lk (vv := (fun n => .sc (.string n))) um58 uk58 kInt (z := ByteArray.empty) az58 m k
theorem lkT58 (m : Mm Int ByteArray) (k : Int) {b : Bool} (h : (m.get k).isSome = b) : Cd.ok P G0 (.lkB (mbis m) 58 (.sc (.int .i64 k)) true (.tup [.sc (.string ((m.get k).getD ByteArray.empty)), .sc (.bool b)])) := mm_lkT (vv := (fun n => .sc (.string n))) um58 uk58 kInt (z := ByteArray.empty) az58 m k h
theorem ms58 (m : Mm Int ByteArray) (k : Int) (v : ByteArray) : Cd.ok P G0 (.msB (mbis m) 58 (.sc (.int .i64 k)) (.sc (.string v)) (mbis (m.set k v))) := mm_ms (vv := (fun n => .sc (.string n))) um58 uk58 kInt m k v
theorem zeql9 {a b : ByteArray} {q : Bool} (h : some (eqB a.data.toList b.data.toList) = some q) (x y : Operand) : abin P .eql 9 x y (.sc (.string a)) (.sc (.string b)) = some (.sc (.bool q)) := by
 rw [← abinF_eq]
 cases h
 kernel_rfl
theorem zgtr3 {a b : Int} {q : Bool} (h : some (ltI b a) = some q) (x y : Operand) : abin P .gtr 3 x y (.sc (.int .i64 a)) (.sc (.int .i64 b)) = some (.sc (.bool q)) := by
 rw [← abinF_eq]
 cases h
 kernel_rfl
theorem zleq3 {a b : Int} {q : Bool} (h : some (leI a b) = some q) (x y : Operand) : abin P .leq 3 x y (.sc (.int .i64 a)) (.sc (.int .i64 b)) = some (.sc (.bool q)) := by
 rw [← abinF_eq]
 cases h
 kernel_rfl
def q213dS : ByteArray := ⟨#[33, 61]⟩
def q2aS : ByteArray := ⟨#[42]⟩
def q2bS : ByteArray := ⟨#[43]⟩
def q2dS : ByteArray := ⟨#[45]⟩
def q2fS : ByteArray := ⟨#[47]⟩
def q3cS : ByteArray := ⟨#[60]⟩
def q3c3dS : ByteArray := ⟨#[60, 61]⟩
def q3d3dS : ByteArray := ⟨#[61, 61]⟩
def EURS : ByteArray := ⟨#[69, 85, 82]⟩
def amountS : ByteArray := ⟨#[97, 109, 111, 117, 110, 116]⟩
def andS : ByteArray := ⟨#[97, 110, 100]⟩
def artS : ByteArray := ⟨#[97, 114, 116]⟩
def articleS : ByteArray := ⟨#[97, 114, 116, 105, 99, 108, 101]⟩
def atS : ByteArray := ⟨#[97, 116]⟩
def dayS : ByteArray := ⟨#[100, 97, 121]⟩
def deductS : ByteArray := ⟨#[100, 101, 100, 117, 99, 116]⟩
def earnS : ByteArray := ⟨#[101, 97, 114, 110]⟩
def factS : ByteArray := ⟨#[102, 97, 99, 116]⟩
def falseS : ByteArray := ⟨#[102, 97, 108, 115, 101]⟩
def floorS : ByteArray := ⟨#[102, 108, 111, 111, 114]⟩
def forS : ByteArray := ⟨#[102, 111, 114]⟩
def fromS : ByteArray := ⟨#[102, 114, 111, 109]⟩
def greatestS : ByteArray := ⟨#[103, 114, 101, 97, 116, 101, 115, 116]⟩
def infoS : ByteArray := ⟨#[105, 110, 102, 111]⟩
def knownS : ByteArray := ⟨#[107, 110, 111, 119, 110]⟩
def leastS : ByteArray := ⟨#[108, 101, 97, 115, 116]⟩
def lineS : ByteArray := ⟨#[108, 105, 110, 101]⟩
def minS : ByteArray := ⟨#[109, 105, 110]⟩
def minutesS : ByteArray := ⟨#[109, 105, 110, 117, 116, 101, 115]⟩
def monthS : ByteArray := ⟨#[109, 111, 110, 116, 104]⟩
def notS : ByteArray := ⟨#[110, 111, 116]⟩
def numberS : ByteArray := ⟨#[110, 117, 109, 98, 101, 114]⟩
def orS : ByteArray := ⟨#[111, 114]⟩
def rankS : ByteArray := ⟨#[114, 97, 110, 107]⟩
def tableS : ByteArray := ⟨#[116, 97, 98, 108, 101]⟩
def toS : ByteArray := ⟨#[116, 111]⟩
def trueS : ByteArray := ⟨#[116, 114, 117, 101]⟩
def truthS : ByteArray := ⟨#[116, 114, 117, 116, 104]⟩
def unlessS : ByteArray := ⟨#[117, 110, 108, 101, 115, 115]⟩
def weekdayS : ByteArray := ⟨#[119, 101, 101, 107, 100, 97, 121]⟩
def whenS : ByteArray := ⟨#[119, 104, 101, 110]⟩
def yearS : ByteArray := ⟨#[121, 101, 97, 114]⟩
end Mo
end Go.Proofs.YtkfplcngmiljaaaGreatDoor
namespace Go.Proofs.YtkfplcngmiljaaaGreatDoor
open AI Go
namespace Mo
set_option maxRecDepth 100000
set_option maxHeartbeats 4000000
def okPc (x : Pc) : Prop := (-9223372036854775808 ≤ x.fr ∧ x.fr ≤ 9223372036854775807) ∧ (-9223372036854775808 ≤ x.att ∧ x.att ≤ 9223372036854775807) ∧ (-9223372036854775808 ≤ x.slope ∧ x.slope ≤ 9223372036854775807)
def okFn (x : Fn) : Prop := x.ps.length ≤ 9223372036854775807 ∧ (∀ y ∈ x.ps, okPc y)
mutual
def okNd : Nd → Prop
 | ⟨kind, name, unit, n, fr, to, known, tab, kids, att⟩ => okFn tab ∧ kids.length ≤ 9223372036854775807 ∧ okNds kids
def okNds : List Nd → Prop
 | [] => True
 | k :: ks => okNd k ∧ okNds ks
end
theorem okNds_iff {l : List Nd} : okNds l ↔ ∀ k ∈ l, okNd k := by
 induction l with
 | nil => simp [okNds]
 | cons k l ih => simp [okNds, ih]
theorem okNd_iff (x : Nd) : okNd x ↔ okFn x.tab ∧ x.kids.length ≤ 9223372036854775807 ∧ ∀ y ∈ x.kids, okNd y := by
 cases x; rw [okNd, okNds_iff]
end Mo
end Go.Proofs.YtkfplcngmiljaaaGreatDoor
