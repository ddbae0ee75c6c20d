/- Part of a proof: see the last text. -/
import Derived.Test.YtnijkdknnmgoeaaGreatNuh
import Derived.Test.YtnijkdknnmgoeaaGreatProg
import Derived.KernelRfl
set_option linter.unusedVariables false
set_option linter.unusedSimpArgs false
namespace Go.Proofs.YtnijkdknnmgoeaaGreat
open AI Go
namespace Hd
def G : Glob := fun _ => none
theorem mixed : Tryz.prog.follows .mixedOrders = true := by kernel_rfl
theorem plainG (g : Nat) (cs : List AV) (h : G g = some cs) : plainL cs = true := by cases h
end Hd
end Go.Proofs.YtnijkdknnmgoeaaGreat
namespace Go.Proofs.YtnijkdknnmgoeaaGreat
open AI Go
namespace Mo
noncomputable abbrev P : Program := Tryz.prog
abbrev G : Glob := Hd.G
noncomputable abbrev X : Exts := XS P G
theorem ltT {i n : Nat} (h : i < n) : ltI ((i : Nat) : Int) ((n : Nat) : Int) = true := by rw [ltI_eq]; simp; exact h
theorem ltF {i n : Nat} (h : n ≤ i) : ltI ((i : Nat) : Int) ((n : Nat) : Int) = false := by rw [ltI_eq]; simp; omega
theorem eqI_T {a b : Int} (h : eqI a b = true) : a = b := by rw [eqI_eq] at h; simpa using h
theorem ltI_T {a b : Int} (h : ltI a b = true) : a < b := by rw [ltI_eq] at h; exact of_decide_eq_true h
theorem ltI_F {a b : Int} (h : ltI a b = false) : b ≤ a := by rw [ltI_eq] at h; have := of_decide_eq_false h; omega
theorem cndI {β : Type} {b : Bool} {t f : Option β} {r : β} {X : Prop} (h1 : b = true → t = some r → X) (h2 : b = false → f = some r → X) : cond b t f = some r → X := fun h => (cndE h).elim (fun x => h1 x.1 x.2) fun x => h2 x.1 x.2
theorem bndI {β κ : Type} {m : Option κ} {k : κ → Option β} {r : β} {X : Prop} (h1 : ∀ y, m = some y → k y = some r → X) : m.bind k = some r → X := fun h => (bndE h).elim fun y x => h1 y x.1 x.2
theorem limAI {β : Type} {n : Nat} {x : Option β} {r : β} {X : Prop} (h1 : n ≤ 100000000 → x = some r → X) : limA n x = some r → X := fun h => h1 (limAE h).1 (limAE h).2
theorem nonI {β : Type} {r : β} {X : Prop} : (none : Option β) = some r → X := fun h => nomatch h
theorem eqI_f {a b : Int} (h : a ≠ b) : eqI a b = false := by rw [eqI_eq]; simpa using h
theorem ltI_t {a b : Int} (h : a < b) : ltI a b = true := by rw [ltI_eq]; exact decide_eq_true h
theorem ltI_f {a b : Int} (h : b ≤ a) : ltI a b = false := by rw [ltI_eq]; exact decide_eq_false (by omega)
def fq {n m : Nat} {a : AV} (h : plain a = true) : FP n m := ⟨a, a, .plain h⟩
def fp {n m : Nat} (a : AV) (h : plain a = true) : FP n m := ⟨a, a, .plain h⟩
def fbp {n m : Nat} (a : List AV) (h : plainL a = true) : FB n m := ⟨.cells a, .cells a, .cells (.plain h)⟩
def fbu {n m : Nat} (a : List AV) (h : underL n m a = true) : FB n m := ⟨.cells a, .cells a, .cells (.under h)⟩
theorem plSl {n : Nat} {l : List AV} (h : plainL l = true) : plain (.sl .lost n l) = true := by simp only [plain, h]; rfl
theorem plSlF {n : Nat} {l : List AV} (h : plainL l = true) : plain (.sl .full n l) = true := by simp only [plain, h]; rfl
theorem plFn {f : Go.Fn} {a l : List AV} (h : plainL a = true) (k : plainL l = true) : plain (.fn f a l) = true := by simp only [plain, h, k]; rfl
theorem unSl {n m r sz k : Nat} {l : List AV} (h : decide (r < m) = true) (t : underL n m l = true) : under n m (.sl (.row r sz) k l) = true := by simp only [under, h, t]; rfl
theorem unFn {n m : Nat} {f : Go.Fn} {a l : List AV} (h : underL n m a = true) (k : underL n m l = true) : under n m (.fn f a l) = true := by simp only [under, h, k]; rfl
def inC (x : Int) : List AV := [.sc (.int .i64 x)]
def stC (x : ByteArray) : List AV := [.sc (.string x)]
theorem layInt : Lay inC (rows inC) 1 := ⟨fun _ => rfl, fun _ => rfl, fun _ => rfl⟩
theorem layStr : Lay stC (rows stC) 1 := ⟨fun _ => rfl, fun _ => rfl, fun _ => rfl⟩
def liinC (x : (List Int)) : List AV := [.sl .lost x.length (rows inC x)]
theorem layLInt : Lay liinC (rows liinC) 1 := ⟨fun _ => rfl, fun _ => rfl, fun x => plC (layInt.plS x) rfl⟩
structure Pc where
 fr : Int
 att : Int
 slope : Int
def pcC (x : Pc) : List AV := [.sc (.int .i64 x.fr), .sc (.int .i64 x.att), .sc (.int .i64 x.slope)]
theorem layPc : Lay pcC (rows pcC) 3 := ⟨fun _ => rfl, fun _ => rfl, fun x => (plC rfl (plC rfl (plC rfl rfl)))⟩
structure Fn where
 den : Int
 ps : (List Pc)
def fnC (x : Fn) : List AV := [.sc (.int .i64 x.den), .sl .lost x.ps.length (rows pcC x.ps)]
theorem layFn : Lay fnC (rows fnC) 2 := ⟨fun _ => rfl, fun _ => rfl, fun x => (plC rfl (plC (layPc.plS x.ps) rfl))⟩
structure Nd where
 kind : Int
 name : ByteArray
 unit : ByteArray
 n : Int
 fr : Int
 to : Int
 known : Int
 tab : Fn
 kids : (List Nd)
 att : Int
mutual
def ndK : Nd → List AV
 | ⟨kind, name, unit, n, fr, to, known, tab, kids, att⟩ => [.sc (.int .i64 kind), .sc (.string name), .sc (.string unit), .sc (.int .i64 n), .sc (.int .i64 fr), .sc (.int .i64 to), .sc (.int .i64 known), .sc (.int .i64 tab.den), .sl .lost tab.ps.length (rows pcC tab.ps), .sl .lost kids.length (ndsC kids), .sc (.int .i64 att)]
def ndsC : List Nd → List AV
 | [] => []
 | k :: ks => ndK k ++ ndsC ks
end
def ndC (x : Nd) : List AV := [.sc (.int .i64 x.kind), .sc (.string x.name), .sc (.string x.unit), .sc (.int .i64 x.n), .sc (.int .i64 x.fr), .sc (.int .i64 x.to), .sc (.int .i64 x.known), .sc (.int .i64 x.tab.den), .sl .lost x.tab.ps.length (rows pcC x.tab.ps), .sl .lost x.kids.length (ndsC x.kids), .sc (.int .i64 x.att)]
theorem ndK_eq (x : Nd) : ndK x = ndC x := by cases x; rfl
theorem ndsC_eq (l : List Nd) : ndsC l = rows ndC l := by
 induction l with
 | nil => rfl
 | cons k ks ih => rw [rows_cons, ndsC, ih, ndK_eq]
mutual
theorem ndK_pl : ∀ x : Nd, plainL (ndK x) = true
 | ⟨kind, name, unit, n, fr, to, known, tab, kids, att⟩ => by rw [ndK]; exact (plC rfl (plC rfl (plC rfl (plC rfl (plC rfl (plC rfl (plC rfl (plC rfl (plC (layPc.plS tab.ps) (plC (plSl (ndsC_pl kids)) (plC rfl rfl)))))))))))
theorem ndsC_pl : ∀ l : List Nd, plainL (ndsC l) = true
 | [] => rfl
 | k :: ks => by rw [ndsC]; exact plApp (ndK_pl k) (ndsC_pl ks)
end
theorem layNd : Lay ndC ndsC 11 := ⟨ndsC_eq, fun _ => rfl, fun x => by rw [← ndK_eq]; exact ndK_pl x⟩
structure Ex where
 op : Int
 n : Int
 unit : ByteArray
 tab : Fn
 kids : (List Ex)
mutual
def exK : Ex → List AV
 | ⟨op, n, unit, tab, kids⟩ => [.sc (.int .i64 op), .sc (.int .i64 n), .sc (.string unit), .sc (.int .i64 tab.den), .sl .lost tab.ps.length (rows pcC tab.ps), .sl .lost kids.length (exsC kids)]
def exsC : List Ex → List AV
 | [] => []
 | k :: ks => exK k ++ exsC ks
end
def exC (x : Ex) : List AV := [.sc (.int .i64 x.op), .sc (.int .i64 x.n), .sc (.string x.unit), .sc (.int .i64 x.tab.den), .sl .lost x.tab.ps.length (rows pcC x.tab.ps), .sl .lost x.kids.length (exsC x.kids)]
theorem exK_eq (x : Ex) : exK x = exC x := by cases x; rfl
theorem exsC_eq (l : List Ex) : exsC l = rows exC l := by
 induction l with
 | nil => rfl
 | cons k ks ih => rw [rows_cons, exsC, ih, exK_eq]
mutual
theorem exK_pl : ∀ x : Ex, plainL (exK x) = true
 | ⟨op, n, unit, tab, kids⟩ => by rw [exK]; exact (plC rfl (plC rfl (plC rfl (plC rfl (plC (layPc.plS tab.ps) (plC (plSl (exsC_pl kids)) rfl))))))
theorem exsC_pl : ∀ l : List Ex, plainL (exsC l) = true
 | [] => rfl
 | k :: ks => by rw [exsC]; exact plApp (exK_pl k) (exsC_pl ks)
end
theorem layEx : Lay exC exsC 6 := ⟨exsC_eq, fun _ => rfl, fun x => by rw [← exK_eq]; exact exK_pl x⟩
structure Ar where
 number : Int
 line : Int
 rank : Int
 fr : Int
 to : Int
 known : Int
 wh : (List Ex)
 un : (List Int)
 am : Ex
def arC (x : Ar) : List AV := [.sc (.int .i64 x.number), .sc (.int .i64 x.line), .sc (.int .i64 x.rank), .sc (.int .i64 x.fr), .sc (.int .i64 x.to), .sc (.int .i64 x.known), .sl .lost x.wh.length (exsC x.wh), .sl .lost x.un.length (rows inC x.un), .sc (.int .i64 x.am.op), .sc (.int .i64 x.am.n), .sc (.string x.am.unit), .sc (.int .i64 x.am.tab.den), .sl .lost x.am.tab.ps.length (rows pcC x.am.tab.ps), .sl .lost x.am.kids.length (exsC x.am.kids)]
theorem layAr : Lay arC (rows arC) 14 := ⟨fun _ => rfl, fun _ => rfl, fun x => (plC rfl (plC rfl (plC rfl (plC rfl (plC rfl (plC rfl (plC (layEx.plS x.wh) (plC (layInt.plS x.un) (plApp (layEx.pl x.am) rfl)))))))))⟩
structure Dc where
 name : ByteArray
 unit : ByteArray
 role : Int
def dcC (x : Dc) : List AV := [.sc (.string x.name), .sc (.string x.unit), .sc (.int .i64 x.role)]
theorem layDc : Lay dcC (rows dcC) 3 := ⟨fun _ => rfl, fun _ => rfl, fun x => (plC rfl (plC rfl (plC rfl rfl)))⟩
structure Co where
 facts : (List Dc)
 lines : (List Dc)
 arts : (List Ar)
def coC (x : Co) : List AV := [.sl .lost x.facts.length (rows dcC x.facts), .sl .lost x.lines.length (rows dcC x.lines), .sl .lost x.arts.length (rows arC x.arts)]
theorem layCo : Lay coC (rows coC) 3 := ⟨fun _ => rfl, fun _ => rfl, fun x => (plC (layDc.plS x.facts) (plC (layDc.plS x.lines) (plC (layAr.plS x.arts) rfl)))⟩
structure Tk where
 kind : Int
 text : ByteArray
 att : Int
structure Dg where
 err : Int
 att : Int
structure Ps where
 l : (List Tk)
 at_ : Int
 end_ : Int
 err : Int
 errAt : Int
structure Ck where
 nodes : Int
def ckC (x : Ck) : List AV := [.sc (.int .i64 x.nodes)]
theorem layCk : Lay ckC (rows ckC) 1 := ⟨fun _ => rfl, fun _ => rfl, fun x => (plC rfl rfl)⟩
structure Cq where
 src : Nd
 diags : (List Dg)
structure Ft where
 codex : Co
 lines : (Mm Int Int)
 nodes : Int
def ftT (r0 : Nat) (x : Ft) : List AV := [.sl .lost x.codex.facts.length (rows dcC x.codex.facts), .sl .lost x.codex.lines.length (rows dcC x.codex.lines), .sl .lost x.codex.arts.length (rows arC x.codex.arts), .mp r0, .sc (.int .i64 x.nodes)]
theorem ftT_rn {k j : Nat} {ρ σ : Nat → Nat} {r0 : Nat} (x : Ft) (h0 : r0 < k) : RnL k j ρ σ (ftT r0 x) (ftT (ρ r0) x) := (.cons (.pl (layDc.plS x.codex.facts)) (.cons (.pl (layDc.plS x.codex.lines)) (.cons (.pl (layAr.plS x.codex.arts)) (.cons (.mp h0) (.cons (.pl rfl) .nil)))))
theorem ftT_un {n m : Nat} {r0 : Nat} {x : Ft} (h0 : decide (r0 < n) = true) : underL n m (ftT r0 x) = true := (unC (under_plain _ _ (layDc.plS x.codex.facts)) (unC (under_plain _ _ (layDc.plS x.codex.lines)) (unC (under_plain _ _ (layAr.plS x.codex.arts)) (unC h0 (unC (under_plain _ _ rfl) rfl)))))
structure Sc where
 facts : (Mm ByteArray ByteArray)
 lines : (Mm ByteArray ByteArray)
 articles : (Mm Int ByteArray)
structure Tr where
 codex : Co
 facts : (Mm ByteArray Int)
 lines : (Mm ByteArray Int)
 articles : (Mm Int Int)
theorem u22 : P.underlying 22 = some (.slice 138) := by kernel_rfl
theorem s138 : (P.info? 138).map (·.size) = some 3 := by kernel_rfl
theorem ix22 (own : Own) {l : List Pc} {i : Nat} {x : Pc} (h : l[i]? = some x) : aindexAt P 22 (.sl own l.length (rows pcC l)) (.sc (.int .i64 ((i : Nat) : Int))) = some (.el (pcC x ++ rows pcC (l.drop (i + 1)))) := layPc.ix u22 s138 own h
theorem ixz22 (own : Own) {l : List Pc} {z : Int} {x : Pc} (h : geti l z = some x) : aindexAt P 22 (.sl own l.length (rows pcC l)) (.sc (.int .i64 z)) = some (.el (pcC x ++ rows pcC (l.drop (z.toNat + 1)))) := layPc.ixz u22 s138 own h
theorem u25 : P.underlying 25 = some (.slice 27) := by kernel_rfl
theorem s27 : (P.info? 27).map (·.size) = some 11 := by kernel_rfl
theorem ix25 (own : Own) {l : List Nd} {i : Nat} {x : Nd} (h : l[i]? = some x) : aindexAt P 25 (.sl own l.length (ndsC l)) (.sc (.int .i64 ((i : Nat) : Int))) = some (.el (ndC x ++ ndsC (l.drop (i + 1)))) := layNd.ix u25 s27 own h
theorem u28 : P.underlying 28 = some (.slice 57) := by kernel_rfl
theorem s57 : (P.info? 57).map (·.size) = some 3 := by kernel_rfl
theorem ix28 (own : Own) {l : List Dc} {i : Nat} {x : Dc} (h : l[i]? = some x) : aindexAt P 28 (.sl own l.length (rows dcC l)) (.sc (.int .i64 ((i : Nat) : Int))) = some (.el (dcC x ++ rows dcC (l.drop (i + 1)))) := layDc.ix u28 s57 own h
theorem ixz28 (own : Own) {l : List Dc} {z : Int} {x : Dc} (h : geti l z = some x) : aindexAt P 28 (.sl own l.length (rows dcC l)) (.sc (.int .i64 z)) = some (.el (dcC x ++ rows dcC (l.drop (z.toNat + 1)))) := layDc.ixz u28 s57 own h
theorem u29 : P.underlying 29 = some (.slice 62) := by kernel_rfl
theorem s62 : (P.info? 62).map (·.size) = some 14 := by kernel_rfl
theorem i62 : (P.info? 62).map (fun i => (i.size, i.bytes, i.zero.map (·.cells.size))) = some (14, 184, some 14) := by kernel_rfl
theorem ix29 (own : Own) {l : List Ar} {i : Nat} {x : Ar} (h : l[i]? = some x) : aindexAt P 29 (.sl own l.length (rows arC l)) (.sc (.int .i64 ((i : Nat) : Int))) = some (.el (arC x ++ rows arC (l.drop (i + 1)))) := layAr.ix u29 s62 own h
theorem ixz29 (own : Own) {l : List Ar} {z : Int} {x : Ar} (h : geti l z = some x) : aindexAt P 29 (.sl own l.length (rows arC l)) (.sc (.int .i64 z)) = some (.el (arC x ++ rows arC (l.drop (z.toNat + 1)))) := layAr.ixz u29 s62 own h
theorem gro29 (own : Own) (l m : List Ar) {o : Own} {n : Nat} {ns : List AV} (hn : Wn ns (rows arC m)) (hnn : n = m.length) (ho : ns.all one = true) (hm : m.length ≠ 0) (hlen : l.length + m.length ≤ 100000000) : Cd.ok P G (.gro 29 29 own l.length (rows arC l) (.sl o n ns) 14 (l ++ m).length (rows arC (l ++ m))) := layAr.gro u29 u29 i62 (by decide) (by decide) own l m hn hnn ho hm hlen
theorem u40 : P.underlying 40 = some (.slice 3) := by kernel_rfl
theorem s3 : (P.info? 3).map (·.size) = some 1 := by kernel_rfl
theorem i3 : (P.info? 3).map (fun i => (i.size, i.bytes, i.zero.map (·.cells.size))) = some (1, 8, some 1) := by kernel_rfl
theorem ix40 (own : Own) {l : List Int} {i : Nat} {x : Int} (h : l[i]? = some x) : aindexAt P 40 (.sl own l.length (rows inC l)) (.sc (.int .i64 ((i : Nat) : Int))) = some (.el (inC x ++ rows inC (l.drop (i + 1)))) := layInt.ix u40 s3 own h
theorem gro40 (own : Own) (l m : List Int) {o : Own} {n : Nat} {ns : List AV} (hn : Wn ns (rows inC m)) (hnn : n = m.length) (ho : ns.all one = true) (hm : m.length ≠ 0) (hlen : l.length + m.length ≤ 100000000) : Cd.ok P G (.gro 40 40 own l.length (rows inC l) (.sl o n ns) 1 (l ++ m).length (rows inC (l ++ m))) := layInt.gro u40 u40 i3 (by decide) (by decide) own l m hn hnn ho hm hlen
theorem u58 : P.underlying 58 = some (.slice 60) := by kernel_rfl
theorem s60 : (P.info? 60).map (·.size) = some 6 := by kernel_rfl
theorem i60 : (P.info? 60).map (fun i => (i.size, i.bytes, i.zero.map (·.cells.size))) = some (6, 88, some 6) := by kernel_rfl
theorem ix58 (own : Own) {l : List Ex} {i : Nat} {x : Ex} (h : l[i]? = some x) : aindexAt P 58 (.sl own l.length (exsC l)) (.sc (.int .i64 ((i : Nat) : Int))) = some (.el (exC x ++ exsC (l.drop (i + 1)))) := layEx.ix u58 s60 own h
theorem ixz58 (own : Own) {l : List Ex} {z : Int} {x : Ex} (h : geti l z = some x) : aindexAt P 58 (.sl own l.length (exsC l)) (.sc (.int .i64 z)) = some (.el (exC x ++ exsC (l.drop (z.toNat + 1)))) := layEx.ixz u58 s60 own h
theorem gro58 (own : Own) (l m : List Ex) {o : Own} {n : Nat} {ns : List AV} (hn : Wn ns (exsC m)) (hnn : n = m.length) (ho : ns.all one = true) (hm : m.length ≠ 0) (hlen : l.length + m.length ≤ 100000000) : Cd.ok P G (.gro 58 58 own l.length (exsC l) (.sl o n ns) 6 (l ++ m).length (exsC (l ++ m))) := layEx.gro u58 u58 i60 (by decide) (by decide) own l m hn hnn ho hm hlen
theorem u69 : P.underlying 69 = some (.slice 40) := by kernel_rfl
theorem s40 : (P.info? 40).map (·.size) = some 1 := by kernel_rfl
theorem s4 : (P.info? 4).map (·.size) = some 1 := by kernel_rfl
theorem i4 : (P.info? 4).map (fun i => (i.size, i.bytes, i.zero.map (·.cells.size))) = some (1, 1, some 1) := by kernel_rfl
theorem u141 : P.underlying 141 = some (.slice 9) := by kernel_rfl
theorem s9 : (P.info? 9).map (·.size) = some 1 := by kernel_rfl
theorem ix141 (own : Own) {l : List ByteArray} {i : Nat} {x : ByteArray} (h : l[i]? = some x) : aindexAt P 141 (.sl own l.length (rows stC l)) (.sc (.int .i64 ((i : Nat) : Int))) = some (.el (stC x ++ rows stC (l.drop (i + 1)))) := layStr.ix u141 s9 own h
theorem ixm69 {id n i : Nat} (h : i < n) : aindexAt P 69 (.msl id 0 n) (.sc (.int .i64 ((i : Nat) : Int))) = some (.ptr id (0 + i * 1)) := layLInt.ixm u69 s40 h
theorem ixmz69 {id n i : Nat} {z : Int} (h : idxN n z = some i) : aindexAt P 69 (.msl id 0 n) (.sc (.int .i64 z)) = some (.ptr id (0 + i * 1)) := layLInt.ixmz u69 s40 h
theorem ldm69 {l : List (List Int)} {i : Nat} {x : (List Int)} (h : l[i]? = some x) : Cd.ok P G (.ldB (.cells (rows liinC l)) 40 (0 + i * 1) (.sl .lost x.length ((rows inC x)))) := layLInt.ld1 (by kernel_rfl) s40 h rfl
theorem stm69 {l : List (List Int)} {i : Nat} {x : (List Int)} (h : l[i]? = some x) (y : (List Int)) : Cd.ok P G (.stB (.cells (rows liinC l)) 40 (0 + i * 1) (.sl .lost y.length ((rows inC y))) (.cells (rows liinC (l.set i y)))) := layLInt.st s40 h y rfl rfl
theorem mkm69 {n : Nat} (hn : n ≤ 16777216) : Cd.ok P G (.mkB 69 (.sc (.int .i64 ((n : Nat) : Int))) (.sc (.int .i64 ((n : Nat) : Int))) n (.cells (rows liinC (List.replicate n [])))) := layLInt.made u69 (by kernel_rfl) (by decide) hn
def wneg (x : Int) : Int := IntKind.i64.wrap (0 - x)
def w64 (x : Int) : Int := IntKind.i64.wrap x
def wrem (x y : Int) : Int := x.tmod y
def drem (x y : Int) : Option Int := if y = 0 then none else some (wrem x y)
def subl {α : Type} (s : List α) (l h : Int) : Option (List α) := if 0 ≤ l ∧ l ≤ h ∧ h ≤ ((s.length : Nat) : Int) then some ((s.drop l.toNat).take (h.toNat - l.toNat)) else none
theorem anat_i (z : Int) (h : 0 ≤ z) : anat (.sc (.int .i64 z)) = some z.toNat := by unfold anat; simp [h]
theorem rem_ok3 {a b c : Int} (h : drem a b = some c) (x y : Operand) : abin P .rem 3 x y (.sc (.int .i64 a)) (.sc (.int .i64 b)) = some (.sc (.int .i64 c)) := by
 unfold drem at h
 split at h
 · cases h
 · rename_i hb
   cases h
   simp [abin, toVal, eqGuard, binOp, Op.intDiv, hb, AI.pv, scal, scalar, wrem, Bind.bind, Sem.bind, Pure.pure]
theorem us9 : P.underlying 9 = some .string := by kernel_rfl
theorem ixb9 {s : ByteArray} {i : Nat} {c : UInt8} (h : s.data.toList[i]? = some c) : aindex P 9 (.sc (.string s)) (.sc (.int .i64 ((i : Nat) : Int))) = some (.sc (.int .u8 ((c.toNat : Nat) : Int))) := by
 unfold aindex
 rw [us9, anat_i _ (by omega)]
 simp only [Int.toNat_natCast, h]
theorem subl25_ (l h : Nat) {s : List Nd} (h1 : l ≤ h) (h2 : h ≤ s.length) (lo hi : Option AV) (e1 : abound 0 lo = some l) (e2 : abound s.length hi = some h) : aslice P 25 (.sl .lost s.length (ndsC s)) lo hi none = some (.sl .lost ((s.drop l).take (h - l)).length (ndsC ((s.drop l).take (h - l)))) := layNd.sub u25 s27 l h h1 h2 lo hi e1 e2
theorem sublL25 {s v : List Nd} {l : Int} (e : subl s l ((s.length : Nat) : Int) = some v) : aslice P 25 (.sl .lost s.length (ndsC s)) (some (.sc (.int .i64 l))) (none) none = some (.sl .lost v.length (ndsC v)) := by
 unfold subl at e
 split at e
 · rename_i hc
   cases e
   exact subl25_ _ _ (by omega) (by omega) _ _ (anat_i l hc.1) rfl
 · cases e
def samePc (x y : Pc) : Bool := x.fr == y.fr && (x.att == y.att && (x.slope == y.slope))
theorem samePc_all (x y : Pc) : all2 [.int .i64 x.fr, .int .i64 x.att, .int .i64 x.slope] [.int .i64 y.fr, .int .i64 y.att, .int .i64 y.slope] = some (samePc x y) := by
 simp only [all2, fEq, samePc, if_true, Option.bind_some]
 cases (x.fr == y.fr) <;> cases (x.att == y.att) <;> cases (x.slope == y.slope) <;> rfl
theorem flat138 : Flat P 138 [1, 1, 1] := ⟨by kernel_rfl, by kernel_rfl, by kernel_rfl, by kernel_rfl, by kernel_rfl, by kernel_rfl⟩
theorem neq138 {x y : Pc} {b : Bool} (h : samePc x y = b) (ox oy : Operand) : abin P .neq 138 ox oy (.agg (pcC x)) (.agg (pcC y)) = some (.sc (.bool (!b))) := by
 subst h
 exact (flat138.bin (us := [.int .i64 x.fr, .int .i64 x.att, .int .i64 x.slope]) (vs := [.int .i64 y.fr, .int .i64 y.att, .int .i64 y.slope]) ⟨.inl ⟨_, rfl, rfl⟩, ⟨.inl ⟨_, rfl, rfl⟩, ⟨.inl ⟨_, rfl, rfl⟩, trivial⟩⟩⟩ ⟨.inl ⟨_, rfl, rfl⟩, ⟨.inl ⟨_, rfl, rfl⟩, ⟨.inl ⟨_, rfl, rfl⟩, trivial⟩⟩⟩ (samePc_all x y) ox oy).2
def mbii (m : Mm Int Int) : ABlk := mB (fun n => .int .i64 n) (fun n => .sc (.int .i64 n)) m
theorem um83 : P.underlying 83 = some (.map 3 3) := by kernel_rfl
theorem uk83 : P.underlying 3 = some ((.int .i64)) := by kernel_rfl
theorem az83 : azero P 3 = some (.sc (.int .i64 0)) := by kernel_rfl
theorem lkT83 (m : Mm Int Int) (k : Int) {b : Bool} (h : (m.get k).isSome = b) : Cd.ok P G (.lkB (mbii m) 83 (.sc (.int .i64 k)) true (.tup [.sc (.int .i64 ((m.get k).getD 0)), .sc (.bool b)])) := mm_lkT (vv := (fun n => .sc (.int .i64 n))) um83 uk83 kInt (z := 0) az83 m k h
theorem ms83 (m : Mm Int Int) (k : Int) (v : Int) : Cd.ok P G (.msB (mbii m) 83 (.sc (.int .i64 k)) (.sc (.int .i64 v)) (mbii (m.set k v))) := mm_ms (vv := (fun n => .sc (.int .i64 n))) um83 uk83 kInt m k v
def mbib (m : Mm Int Bool) : ABlk := mB (fun n => .int .i64 n) (fun n => .sc (.bool n)) m
theorem um89 : P.underlying 89 = some (.map 3 4) := by kernel_rfl
theorem uk89 : P.underlying 3 = some ((.int .i64)) := by kernel_rfl
theorem az89 : azero P 4 = some (.sc (.bool false)) := by kernel_rfl
theorem lkB89 (m : Mm Int Bool) (k : Int) {b : Bool} (h : (m.get k).getD false = b) : Cd.ok P G (.lkB (mbib m) 89 (.sc (.int .i64 k)) false (.sc (.bool b))) := by
 subst h
 exact mm_lk (vv := (fun n => .sc (.bool n))) um89 uk89 kInt (z := false) az89 m k
theorem ms89 (m : Mm Int Bool) (k : Int) (v : Bool) : Cd.ok P G (.msB (mbib m) 89 (.sc (.int .i64 k)) (.sc (.bool v)) (mbib (m.set k v))) := mm_ms (vv := (fun n => .sc (.bool n))) um89 uk89 kInt m k v
def mbsb (m : Mm ByteArray Bool) : ABlk := mB (fun n => .string n) (fun n => .sc (.bool n)) m
theorem um131 : P.underlying 131 = some (.map 9 4) := by kernel_rfl
theorem uk131 : P.underlying 9 = some (.string) := by kernel_rfl
theorem az131 : azero P 4 = some (.sc (.bool false)) := by kernel_rfl
theorem lkB131 (m : Mm ByteArray Bool) (k : ByteArray) {b : Bool} (h : (m.get k).getD false = b) : Cd.ok P G (.lkB (mbsb m) 131 (.sc (.string k)) false (.sc (.bool b))) := by
 subst h
 exact mm_lk (vv := (fun n => .sc (.bool n))) um131 uk131 kStr (z := false) az131 m k
theorem ms131 (m : Mm ByteArray Bool) (k : ByteArray) (v : Bool) : Cd.ok P G (.msB (mbsb m) 131 (.sc (.string k)) (.sc (.bool v)) (mbsb (m.set k v))) := mm_ms (vv := (fun n => .sc (.bool n))) um131 uk131 kStr m k v
theorem zeql3 {a b : Int} {q : Bool} (h : some (eqI a b) = some q) (x y : Operand) : abin P .eql 3 x y (.sc (.int .i64 a)) (.sc (.int .i64 b)) = some (.sc (.bool q)) := by
 rw [← abinF_eq]
 cases h
 kernel_rfl
theorem zeql9 {a b : ByteArray} {q : Bool} (h : some (eqB a.data.toList b.data.toList) = some q) (x y : Operand) : abin P .eql 9 x y (.sc (.string a)) (.sc (.string b)) = some (.sc (.bool q)) := by
 rw [← abinF_eq]
 cases h
 kernel_rfl
theorem zgeq3 {a b : Int} {q : Bool} (h : some (leI b a) = some q) (x y : Operand) : abin P .geq 3 x y (.sc (.int .i64 a)) (.sc (.int .i64 b)) = some (.sc (.bool q)) := by
 rw [← abinF_eq]
 cases h
 kernel_rfl
theorem zgtr3 {a b : Int} {q : Bool} (h : some (ltI b a) = some q) (x y : Operand) : abin P .gtr 3 x y (.sc (.int .i64 a)) (.sc (.int .i64 b)) = some (.sc (.bool q)) := by
 rw [← abinF_eq]
 cases h
 kernel_rfl
theorem zleq3 {a b : Int} {q : Bool} (h : some (leI a b) = some q) (x y : Operand) : abin P .leq 3 x y (.sc (.int .i64 a)) (.sc (.int .i64 b)) = some (.sc (.bool q)) := by
 rw [← abinF_eq]
 cases h
 kernel_rfl
theorem zlss3 {a b : Int} {q : Bool} (h : some (ltI a b) = some q) (x y : Operand) : abin P .lss 3 x y (.sc (.int .i64 a)) (.sc (.int .i64 b)) = some (.sc (.bool q)) := by
 rw [← abinF_eq]
 cases h
 kernel_rfl
theorem zneq3 {a b : Int} {q : Bool} (h : some (!eqI a b) = some q) (x y : Operand) : abin P .neq 3 x y (.sc (.int .i64 a)) (.sc (.int .i64 b)) = some (.sc (.bool q)) := by
 rw [← abinF_eq]
 cases h
 kernel_rfl
theorem zneq9 {a b : ByteArray} {q : Bool} (h : some (!eqB a.data.toList b.data.toList) = some q) (x y : Operand) : abin P .neq 9 x y (.sc (.string a)) (.sc (.string b)) = some (.sc (.bool q)) := by
 rw [← abinF_eq]
 cases h
 kernel_rfl
def q213dS : ByteArray := ⟨#[33, 61]⟩
def q2aS : ByteArray := ⟨#[42]⟩
def q2bS : ByteArray := ⟨#[43]⟩
def q2dS : ByteArray := ⟨#[45]⟩
def q2fS : ByteArray := ⟨#[47]⟩
def q3cS : ByteArray := ⟨#[60]⟩
def q3c3dS : ByteArray := ⟨#[60, 61]⟩
def q3d3dS : ByteArray := ⟨#[61, 61]⟩
def amountS : ByteArray := ⟨#[97, 109, 111, 117, 110, 116]⟩
def andS : ByteArray := ⟨#[97, 110, 100]⟩
def artS : ByteArray := ⟨#[97, 114, 116]⟩
def articleS : ByteArray := ⟨#[97, 114, 116, 105, 99, 108, 101]⟩
def atS : ByteArray := ⟨#[97, 116]⟩
def dayS : ByteArray := ⟨#[100, 97, 121]⟩
def deductS : ByteArray := ⟨#[100, 101, 100, 117, 99, 116]⟩
def earnS : ByteArray := ⟨#[101, 97, 114, 110]⟩
def factS : ByteArray := ⟨#[102, 97, 99, 116]⟩
def falseS : ByteArray := ⟨#[102, 97, 108, 115, 101]⟩
def floorS : ByteArray := ⟨#[102, 108, 111, 111, 114]⟩
def forS : ByteArray := ⟨#[102, 111, 114]⟩
def fromS : ByteArray := ⟨#[102, 114, 111, 109]⟩
def greatestS : ByteArray := ⟨#[103, 114, 101, 97, 116, 101, 115, 116]⟩
def infoS : ByteArray := ⟨#[105, 110, 102, 111]⟩
def knownS : ByteArray := ⟨#[107, 110, 111, 119, 110]⟩
def leastS : ByteArray := ⟨#[108, 101, 97, 115, 116]⟩
def lineS : ByteArray := ⟨#[108, 105, 110, 101]⟩
def minS : ByteArray := ⟨#[109, 105, 110]⟩
def minutesS : ByteArray := ⟨#[109, 105, 110, 117, 116, 101, 115]⟩
def monthS : ByteArray := ⟨#[109, 111, 110, 116, 104]⟩
def notS : ByteArray := ⟨#[110, 111, 116]⟩
def numberS : ByteArray := ⟨#[110, 117, 109, 98, 101, 114]⟩
def orS : ByteArray := ⟨#[111, 114]⟩
def rankS : ByteArray := ⟨#[114, 97, 110, 107]⟩
def tableS : ByteArray := ⟨#[116, 97, 98, 108, 101]⟩
def toS : ByteArray := ⟨#[116, 111]⟩
def trueS : ByteArray := ⟨#[116, 114, 117, 101]⟩
def truthS : ByteArray := ⟨#[116, 114, 117, 116, 104]⟩
def unlessS : ByteArray := ⟨#[117, 110, 108, 101, 115, 115]⟩
def weekdayS : ByteArray := ⟨#[119, 101, 101, 107, 100, 97, 121]⟩
def whenS : ByteArray := ⟨#[119, 104, 101, 110]⟩
def yearS : ByteArray := ⟨#[121, 101, 97, 114]⟩
end Mo
end Go.Proofs.YtnijkdknnmgoeaaGreat
namespace Go.Proofs.YtnijkdknnmgoeaaGreat
open AI Go
namespace Mo
set_option maxRecDepth 100000
set_option maxHeartbeats 4000000
noncomputable def B118 : Code := bodyOf Tryz.f118
theorem b118 : Tryz.f118.body = some B118 := by kernel_rfl
noncomputable def ref10_Count_L1 (r_ref10_Count : Ex → Int → Option Int) (limit : Int) (i0 : Nat) (e0 : Ex) (n5 : Int) : Option (Lp Int Int Int) := cond (ltI n5 limit) ((r_ref10_Count e0 (wsub limit n5)).bind fun y1 => some (.nx (wadd n5 y1))) (some (.ex n5))
noncomputable def ref10_Count_B (r_ref10_Count : Ex → Int → Option Int) (e : Ex) (limit : Int) : Option Int := cond (leI limit 0) (some 0) ((lim e.kids.length (foldL (fun i y x => ref10_Count_L1 r_ref10_Count limit i y x) (fun x => x) (e.kids.drop 0) 0 1)).bind (lpK (fun (n5_2 : Int) => some n5_2) (fun v => some v)))
theorem ref10_Count_step (r_ref10_Count : Ex → Int → Option Int) (hr_ref10_Count : ∀ (e : Ex) (limit : Int) (yR : Int), r_ref10_Count e limit = some yR → Pure P G 118 [.agg (exC e), .sc (.int .i64 limit)] (.sc (.int .i64 yR))) (e : Ex) (limit : Int) (yR : Int) (h : ref10_Count_B r_ref10_Count e limit = some yR) : Pure P G 118 [.agg (exC e), .sc (.int .i64 limit)] (.sc (.int .i64 yR)) := by
 unfold ref10_Count_B at h
 refine pureM Hd.mixed Hd.plainG (WC_body Tryz.func118 b118 ?_) (plC (layEx.plG e) (plC rfl rfl)) rfl
 revert h
 refine cndI (fun hb1 => ?_) fun hb1 => ?_
 rintro ⟨⟩
 exact rS (runS 300 [pb hb1]) (by kernel_rfl)
 refine bndI fun res hres h => ?_
 have hlen := (limE hres).1
 replace hres := (limE hres).2
 refine go_at [] [0, 1, 2, 5, 6, 8, 13, 14, 17, 18, 26] 0 (sub B118 [1, 1, 1, 0, 1, 0, 0]) [.code (sub B118 [1, 1, 1, 1])] _ _ (runS 300 [pb hb1]) (by kernel_rfl) (foldP (fn := Tryz.f118) (m := 0) (fun v => .sc (.int .i64 v)) 0 e.kids (fun i0 (n5 : Int) (j0 : JJ) => frm 33 0 [(1, .sc (.int .i64 limit)), (2, .ptr 0 0), (5, .sc (.int .i64 n5)), (6, .sc (.int .i64 ((i0 : Nat) : Int)))] [8, 13, 14, 17, 18] 0 [0, 26] 0 j0) (fun (_ : Nat) (n5 : Int) (_ : JJ) => ⟨[(0, .cells (exC e))], 1, [], 0⟩) (fun (j : JJ) => plainL j.2 = true) (fun (n5 : Int) (jx : JJ) => frm 33 0 [(5, .sc (.int .i64 n5))] [8, 13, 14, 17, 18] 0 [0, 26] 0 jx) (fun (n5 : Int) (_ : JJ) => ⟨[(0, .cells (exC e))], 1, [], 0⟩) (fun (j : JJ) => plainL j.2 = true) ?_ ?_ 0 hres ?_ ?_ ([.bool false], [.agg (exC e), .sc undef]) (plC (layEx.plG e) (plC rfl rfl)))
 rintro i0 n5 j0 hj0 hge hq
 clear h hres
 refine WL_rnd ?_
 exact go_ex Hd.plainG [1, 10, 16, 26, 28, 34, 36, 53] [fq (gn_pl hj0 0), fq (gn_pl hj0 1)] [fbp (exC e) (layEx.pl e)] 0 _ _ (runS 300 [pb (B := ltI ((i0 : Nat) : Int) ((e.kids.length : Nat) : Int)) (b := false) (ltF hge)]) (by kernel_rfl) (hq ([(jn j0 0), .bool false, .bool false, undef, .bool false], [(gn j0 0), (gn j0 1)]) (plC (gn_pl hj0 0) (plC (gn_pl hj0 1) rfl)))
 clear h hres
 rintro i0 e0 n5 j0 r hj0 he0 hi0 h k
 refine WL_rnd ?_
 revert h
 show ref10_Count_L1 r_ref10_Count limit i0 e0 n5 = some r → _
 unfold ref10_Count_L1
 let o1 : List (PC P G) := [pb (B := ltI ((i0 : Nat) : Int) ((e.kids.length : Nat) : Int)) (b := true) (ltT hi0)]
 refine cndI (fun hb2 => ?_) fun hb2 => ?_
 refine bndI fun y1 hy1 => ?_
 rintro ⟨⟩
 exact go_nx Hd.plainG [1, 2, 4, 10, 12, 16, 26, 28, 34, 36, 53] [fq (gn_pl hj0 0), fq (layEx.plG e0)] [fbp (exC e) (layEx.pl e)] _ _ (runS 300 (o1 ++ [pb hb2, pix (ix58 .lost he0), pk, pcall (hr_ref10_Count e0 (wsub limit n5) y1 hy1), pk, pinc i0 (by omega)])) (by kernel_rfl) (k ([(jn j0 0), .bool true, .bool true, .bool true, .bool true], [(gn j0 0), .agg (exC e0)]) (plC (gn_pl hj0 0) (plC (layEx.plG e0) rfl)))
 rintro ⟨⟩
 exact go_ex Hd.plainG [1, 10, 16, 26, 28, 34, 36, 53] [fq (gn_pl hj0 0), fq (gn_pl hj0 1)] [fbp (exC e) (layEx.pl e)] 0 _ _ (runS 300 (o1 ++ [pb hb2])) (by kernel_rfl) (k ([(jn j0 0), .bool true, .bool true, .bool false, .bool false], [(gn j0 0), (gn j0 1)]) (plC (gn_pl hj0 0) (plC (gn_pl hj0 1) rfl)))
 rintro n5_2 rfl jx_2 hjx_2
 revert h
 clear hres
 dsimp only [lpK]
 intro h
 have hE := Option.some.inj h
 subst hE
 exact go_retA _ _ (runX 300 []) (by kernel_rfl) .body .sc
 rintro v rfl
 dsimp only [lpK] at h
 cases h
 exact .outer .body
noncomputable def ref10_Count_M : Nat → Ex → Int → Option Int
 | 0, _, _ => none
 | qn + 1, e, limit => ref10_Count_B (ref10_Count_M qn) e limit
theorem ref10_Count_all : ∀ qn : Nat, ∀ (e : Ex) (limit : Int) (yR : Int), ref10_Count_M qn e limit = some yR → Pure P G 118 [.agg (exC e), .sc (.int .i64 limit)] (.sc (.int .i64 yR)) := by
 intro qn
 induction qn with
 | zero => exact (fun _ _ _ h => by simp only [ref10_Count_M] at h; cases h)
 | succ qn ih => exact (fun e limit yR h => ref10_Count_step _ ih e limit yR (by rw [ref10_Count_M] at h; exact h))
noncomputable def ref10_Count_R (e : Ex) (limit : Int) : Option Int := evt (fun qn => ref10_Count_M qn e limit)
theorem ref10_Count_ok (e : Ex) (limit : Int) (yR : Int) (h : ref10_Count_R e limit = some yR) : Pure P G 118 [.agg (exC e), .sc (.int .i64 limit)] (.sc (.int .i64 yR)) := by
 obtain ⟨qn, h⟩ := evtE h
 exact (ref10_Count_all qn) e limit yR h
noncomputable def B75 : Code := bodyOf Tryz.f75
theorem b75 : Tryz.f75.body = some B75 := by kernel_rfl
noncomputable def ref10_Small_B  (e : Ex) (limit : Int) : Option Bool := (ref10_Count_R e (wadd limit 1)).bind fun y1 => cond (leI y1 limit) (some true) (some false)
theorem ref10_Small_step   (e : Ex) (limit : Int) (yR : Bool) (h : ref10_Small_B  e limit = some yR) : Pure P G 75 [.agg (exC e), .sc (.int .i64 limit)] (.sc (.bool yR)) := by
 unfold ref10_Small_B at h
 refine pureM Hd.mixed Hd.plainG (WC_body Tryz.func75 b75 ?_) (plC (layEx.plG e) (plC rfl rfl)) rfl
 revert h
 refine bndI fun y1 hy1 => ?_
 refine cndI (fun hb1 => ?_) fun hb1 => ?_
 rintro ⟨⟩
 exact rS (runS 300 [pk, pcall (ref10_Count_ok e (wadd limit 1) y1 hy1), pb hb1]) (by kernel_rfl)
 rintro ⟨⟩
 exact rS (runS 300 [pk, pcall (ref10_Count_ok e (wadd limit 1) y1 hy1), pb hb1]) (by kernel_rfl)
noncomputable def B44 : Code := bodyOf Tryz.f44
theorem b44 : Tryz.f44.body = some B44 := by kernel_rfl
noncomputable def ref10_Few_L2  (limit : Int) (i1 : Nat) (e1 : Ex)  : Option (Lp Unit Unit Bool) := (ref10_Small_B e1 limit).bind fun y2 => cond y2 (some (.nx ())) (some (.rt false))
noncomputable def ref10_Few_L1  (limit : Int) (i0 : Nat) (e0 : Ar)  : Option (Lp Unit Unit Bool) := cond (ltI 40 ((e0.wh.length : Nat) : Int)) (some (.rt false)) (cond (ltI 80 ((e0.un.length : Nat) : Int)) (some (.rt false)) ((ref10_Small_B e0.am limit).bind fun y1 => cond y1 ((lim e0.wh.length (foldL (fun i y x => ref10_Few_L2  limit i y ) (fun x => ()) (e0.wh.drop 0) 0 ())).bind (lpK (fun (_ : Unit) => some (.nx ())) (fun v => some (.rt v)))) (some (.rt false))))
noncomputable def ref10_Few_B  (c : Co) (limit : Int) : Option Bool := cond (ltI 40 ((c.facts.length : Nat) : Int)) (some false) (cond (ltI 40 ((c.lines.length : Nat) : Int)) (some false) (cond (ltI 70 ((c.arts.length : Nat) : Int)) (some false) ((lim c.arts.length (foldL (fun i y x => ref10_Few_L1  limit i y ) (fun x => ()) (c.arts.drop 0) 0 ())).bind (lpK (fun (_ : Unit) => some true) (fun v => some v)))))
theorem ref10_Few_step   (c : Co) (limit : Int) (yR : Bool) (h : ref10_Few_B  c limit = some yR) : Pure P G 44 [.agg (coC c), .sc (.int .i64 limit)] (.sc (.bool yR)) := by
 unfold ref10_Few_B at h
 refine pureM Hd.mixed Hd.plainG (WC_body Tryz.func44 b44 ?_) (plC (layCo.plG c) (plC rfl rfl)) rfl
 revert h
 refine cndI (fun hb1 => ?_) fun hb1 => ?_
 rintro ⟨⟩
 exact rS (runS 300 [pb hb1]) (by kernel_rfl)
 refine cndI (fun hb2 => ?_) fun hb2 => ?_
 rintro ⟨⟩
 exact rS (runS 300 [pb hb1, pb hb2]) (by kernel_rfl)
 refine cndI (fun hb3 => ?_) fun hb3 => ?_
 rintro ⟨⟩
 exact rS (runS 300 [pb hb1, pb hb2, pb hb3]) (by kernel_rfl)
 refine bndI fun res hres h => ?_
 have hlen := (limE hres).1
 replace hres := (limE hres).2
 refine go_at [] [0, 1, 2, 4, 5, 11, 12, 16, 17, 18, 22, 23, 28, 35, 39, 40, 44, 45, 46, 48, 50, 51, 52, 57, 64, 66, 67] 0 (sub B44 [1, 1, 0, 1, 0, 0]) [.code (sub B44 [1, 1, 1])] _ _ (runS 300 [pb hb1, pb hb2, pb hb3]) (by kernel_rfl) (foldP (fn := Tryz.f44) (m := 0) (fun v => .sc (.bool v)) 0 c.arts (fun i0 (_ : Unit) (j0 : JJ) => frm 68 0 [(1, .sc (.int .i64 limit)), (2, .ptr 0 0), (5, .sc (.int .i64 ((i0 : Nat) : Int)))] [4, 11, 12, 16, 17, 18, 22, 23, 28, 39, 40, 44, 45, 46, 50, 51, 52, 57, 66, 67] 0 [0, 35, 48, 64] 0 j0) (fun (_ : Nat) (_ : Unit) (_ : JJ) => ⟨[(0, .cells (coC c))], 1, [], 0⟩) (fun (j : JJ) => plainL j.2 = true) (fun (_ : Unit) (jx : JJ) => frm 68 0 [] [4, 11, 12, 16, 17, 18, 22, 23, 28, 39, 40, 44, 45, 46, 50, 51, 52, 57, 66, 67] 0 [0, 35, 48, 64] 0 jx) (fun (_ : Unit) (_ : JJ) => ⟨[(0, .cells (coC c))], 1, [], 0⟩) (fun (j : JJ) => plainL j.2 = true) ?_ ?_ 0 hres ?_ ?_ ([.bool false, .bool false, .bool false, .bool false, .bool false, .bool false, .bool false, .bool false], [.agg (coC c), .sc undef, .sc undef, .sc undef]) (plC (layCo.plG c) (plC rfl (plC rfl (plC rfl rfl)))))
 rintro i0 ⟨⟩ j0 hj0 hge hq
 clear h hres
 refine WL_rnd ?_
 exact go_ex Hd.plainG [1, 8, 22, 24, 32, 34, 36, 44, 46, 56, 71, 78, 80, 88, 90, 92, 97, 100, 102, 104, 114, 129, 132, 134] [fq (gn_pl hj0 0), fq (gn_pl hj0 1), fq (gn_pl hj0 2), fq (gn_pl hj0 3)] [fbp (coC c) (layCo.pl c)] 0 _ _ (runS 300 [pb (B := ltI ((i0 : Nat) : Int) ((c.arts.length : Nat) : Int)) (b := false) (ltF hge)]) (by kernel_rfl) (hq ([(jn j0 0), (jn j0 1), (jn j0 2), (jn j0 3), (jn j0 4), (jn j0 5), (jn j0 6), (jn j0 7), .bool false, (jn j0 9), (jn j0 10), (jn j0 11), (jn j0 12), (jn j0 13), (jn j0 14), (jn j0 15), (jn j0 16), (jn j0 17), (jn j0 18), (jn j0 19)], [(gn j0 0), (gn j0 1), (gn j0 2), (gn j0 3)]) (plC (gn_pl hj0 0) (plC (gn_pl hj0 1) (plC (gn_pl hj0 2) (plC (gn_pl hj0 3) rfl)))))
 clear h hres
 rintro i0 e0 ⟨⟩ j0 r hj0 he0 hi0 h k
 refine WL_rnd ?_
 revert h
 show ref10_Few_L1  limit i0 e0  = some r → _
 unfold ref10_Few_L1
 let o1 : List (PC P G) := [pb (B := ltI ((i0 : Nat) : Int) ((c.arts.length : Nat) : Int)) (b := true) (ltT hi0), pix (ix29 .lost he0)]
 refine cndI (fun hb4 => ?_) fun hb4 => ?_
 rintro ⟨⟩
 exact go_retA _ _ (runS 300 (o1 ++ [pb hb4])) (by kernel_rfl) (.rnd k) .sc
 refine cndI (fun hb5 => ?_) fun hb5 => ?_
 rintro ⟨⟩
 exact go_retA _ _ (runS 300 (o1 ++ [pb hb4, pb hb5])) (by kernel_rfl) (.rnd k) .sc
 refine bndI fun y1 hy1 => ?_
 refine cndI (fun hv => ?_) fun hv => ?_
 subst hv
 refine bndI fun res hres h => ?_
 have hlen := (limE hres).1
 replace hres := (limE hres).2
 refine go_at [] [0, 1, 2, 4, 5, 6, 7, 11, 12, 16, 17, 18, 22, 23, 28, 35, 39, 40, 44, 45, 46, 48, 50, 51, 52, 57, 64, 66, 67] 2 (sub B44 [1, 1, 0, 1, 0, 0, 1, 0, 0, 1, 1, 1, 0, 0]) [.endb 1, .code (sub B44 [1, 1, 0, 1, 0, 0, 1, 1])] _ _ (runS 300 (o1 ++ [pb hb4, pb hb5, pcall (ref10_Small_step e0.am limit true hy1)])) (by kernel_rfl) (foldP (fn := Tryz.f44) (m := 0) (fun v => .sc (.bool v)) 2 e0.wh (fun i1 (_ : Unit) (j1 : JJ) => frm 68 0 [(1, .sc (.int .i64 limit)), (2, .ptr 0 0), (5, .sc (.int .i64 ((i0 : Nat) : Int))), (6, .ptr 1 0), (7, .sc (.int .i64 ((i1 : Nat) : Int)))] [4, 11, 12, 16, 17, 18, 22, 23, 28, 39, 40, 44, 45, 46, 50, 51, 52, 57, 66, 67] 0 [0, 35, 48, 64] 0 j1) (fun (_ : Nat) (_ : Unit) (_ : JJ) => ⟨[(1, .cells (arC e0)), (0, .cells (coC c))], 2, [], 0⟩) (fun (j : JJ) => plainL j.2 = true) (fun (_ : Unit) (jx : JJ) => frm 68 0 [(1, .sc (.int .i64 limit)), (2, .ptr 0 0), (5, .sc (.int .i64 ((i0 : Nat) : Int)))] [4, 11, 12, 16, 17, 18, 22, 23, 28, 39, 40, 44, 45, 46, 50, 51, 52, 57, 66, 67] 0 [0, 35, 48, 64] 0 jx) (fun (_ : Unit) (_ : JJ) => ⟨[(1, .cells (arC e0)), (0, .cells (coC c))], 2, [], 0⟩) (fun (j : JJ) => plainL j.2 = true) ?_ ?_ 0 hres ?_ ?_ ([(jn j0 0), (jn j0 1), (jn j0 2), (jn j0 3), (jn j0 4), (jn j0 5), (jn j0 6), (jn j0 7), .bool true, .bool false, .bool false, .bool false, .bool false, .bool false, .bool true, .bool false, .bool false, (jn j0 17), (jn j0 18), (jn j0 19)], [(gn j0 0), .agg (arC e0), .agg (exC e0.am), (gn j0 3)]) (plC (gn_pl hj0 0) (plC (layAr.plG e0) (plC (layEx.plG e0.am) (plC (gn_pl hj0 3) rfl)))))
 rintro i1 ⟨⟩ j1 hj1 hge hq
 clear h hres
 refine WL_rnd ?_
 exact go_ex Hd.plainG [1, 2, 4, 8, 10, 22, 24, 32, 34, 36, 44, 46, 56, 71, 78, 80, 88, 90, 92, 97, 100, 102, 104, 114, 129, 132, 134] [fq (gn_pl hj1 0), fq (gn_pl hj1 1), fq (gn_pl hj1 2), fq (gn_pl hj1 3)] [fbp (arC e0) (layAr.pl e0), fbp (coC c) (layCo.pl c)] 2 _ _ (runS 300 [pb (B := ltI ((i1 : Nat) : Int) ((e0.wh.length : Nat) : Int)) (b := false) (ltF hge)]) (by kernel_rfl) (hq ([(jn j1 0), (jn j1 1), (jn j1 2), (jn j1 3), (jn j1 4), (jn j1 5), (jn j1 6), (jn j1 7), (jn j1 8), (jn j1 9), (jn j1 10), (jn j1 11), (jn j1 12), (jn j1 13), (jn j1 14), (jn j1 15), (jn j1 16), .bool false, (jn j1 18), (jn j1 19)], [(gn j1 0), (gn j1 1), (gn j1 2), (gn j1 3)]) (plC (gn_pl hj1 0) (plC (gn_pl hj1 1) (plC (gn_pl hj1 2) (plC (gn_pl hj1 3) rfl)))))
 clear h hres
 rintro i1 e1 ⟨⟩ j1 r hj1 he1 hi1 h k
 refine WL_rnd ?_
 revert h
 show ref10_Few_L2  limit i1 e1  = some r → _
 unfold ref10_Few_L2
 refine bndI fun y2 hy2 => ?_
 let o2 : List (PC P G) := [pb (B := ltI ((i1 : Nat) : Int) ((e0.wh.length : Nat) : Int)) (b := true) (ltT hi1), pix (ix58 .lost he1)]
 refine cndI (fun hv => ?_) fun hv => ?_
 subst hv
 rintro ⟨⟩
 exact go_nx Hd.plainG [1, 2, 4, 8, 10, 12, 14, 22, 24, 32, 34, 36, 44, 46, 56, 71, 78, 80, 88, 90, 92, 97, 100, 102, 104, 114, 129, 132, 134] [fq (gn_pl hj1 0), fq (gn_pl hj1 1), fq (gn_pl hj1 2), fq (layEx.plG e1)] [fbp (arC e0) (layAr.pl e0), fbp (coC c) (layCo.pl c)] _ _ (runS 300 (o2 ++ [pcall (ref10_Small_step e1 limit true hy2), pinc i1 (by omega)])) (by kernel_rfl) (k ([(jn j1 0), (jn j1 1), (jn j1 2), (jn j1 3), (jn j1 4), (jn j1 5), (jn j1 6), (jn j1 7), (jn j1 8), (jn j1 9), (jn j1 10), (jn j1 11), (jn j1 12), (jn j1 13), (jn j1 14), (jn j1 15), (jn j1 16), .bool true, .bool true, .bool false], [(gn j1 0), (gn j1 1), (gn j1 2), .agg (exC e1)]) (plC (gn_pl hj1 0) (plC (gn_pl hj1 1) (plC (gn_pl hj1 2) (plC (layEx.plG e1) rfl)))))
 subst hv
 rintro ⟨⟩
 exact go_retA _ _ (runS 300 (o2 ++ [pcall (ref10_Small_step e1 limit false hy2)])) (by kernel_rfl) (.rnd k) .sc
 rintro ⟨⟩ rfl jx_3 hjx_3
 revert h
 clear hres
 dsimp only [lpK]
 rintro ⟨⟩
 exact go_nx Hd.plainG [1, 2, 4, 8, 10, 22, 24, 32, 34, 36, 44, 46, 56, 71, 78, 80, 88, 90, 92, 97, 100, 102, 104, 114, 129, 132, 134] [fq (gn_pl hjx_3 0), fq (gn_pl hjx_3 1), fq (gn_pl hjx_3 2), fq (gn_pl hjx_3 3)] [fbp (coC c) (layCo.pl c)] _ _ (runX 300 [pinc i0 (by omega)]) (by kernel_rfl) (k ([(jn jx_3 0), (jn jx_3 1), (jn jx_3 2), (jn jx_3 3), (jn jx_3 4), (jn jx_3 5), (jn jx_3 6), (jn jx_3 7), (jn jx_3 8), (jn jx_3 9), (jn jx_3 10), (jn jx_3 11), (jn jx_3 12), (jn jx_3 13), (jn jx_3 14), (jn jx_3 15), (jn jx_3 16), (jn jx_3 17), (jn jx_3 18), (jn jx_3 19)], [(gn jx_3 0), (gn jx_3 1), (gn jx_3 2), (gn jx_3 3)]) (plC (gn_pl hjx_3 0) (plC (gn_pl hjx_3 1) (plC (gn_pl hjx_3 2) (plC (gn_pl hjx_3 3) rfl)))))
 rintro v rfl
 dsimp only [lpK] at h
 cases h
 exact .outer (.rnd k)
 subst hv
 rintro ⟨⟩
 exact go_retA _ _ (runS 300 (o1 ++ [pb hb4, pb hb5, pcall (ref10_Small_step e0.am limit false hy1)])) (by kernel_rfl) (.rnd k) .sc
 rintro ⟨⟩ rfl jx_4 hjx_4
 revert h
 clear hres
 dsimp only [lpK]
 intro h
 have hE := Option.some.inj h
 subst hE
 exact go_retA _ _ (runX 300 []) (by kernel_rfl) .body .sc
 rintro v rfl
 dsimp only [lpK] at h
 cases h
 exact .outer .body
noncomputable def B13 : Code := bodyOf Tryz.f13
theorem b13 : Tryz.f13.body = some B13 := by kernel_rfl
noncomputable def law10_small_B  (c : Co) : Option Bool := (ref10_Few_B c 420).bind fun y1 => some y1
theorem law10_small_step   (c : Co) (yR : Bool) (h : law10_small_B  c = some yR) : Pure P G 13 [.agg (coC c)] (.sc (.bool yR)) := by
 unfold law10_small_B at h
 refine pureM Hd.mixed Hd.plainG (WC_body Tryz.func13 b13 ?_) (plC (layCo.plG c) rfl) rfl
 revert h
 refine bndI fun y1 hy1 => ?_
 intro h
 have hE := Option.some.inj h
 subst hE
 exact rS (runS 300 [pcall (ref10_Few_step c 420 y1 hy1)]) (by kernel_rfl)
noncomputable def B87 : Code := bodyOf Tryz.f87
theorem b87 : Tryz.f87.body = some B87 := by kernel_rfl
noncomputable def ref10_decl_L1  (name : ByteArray) (i0 : Nat) (e0 : Dc)  : Option (Lp Unit Unit Int) := cond (eqB e0.name.data.toList name.data.toList) (some (.rt ((i0 : Nat) : Int))) (some (.nx ()))
noncomputable def ref10_decl_B  (l : (List Dc)) (name : ByteArray) : Option Int := (lim l.length (foldL (fun i y x => ref10_decl_L1  name i y ) (fun x => ()) (l.drop 0) 0 ())).bind (lpK (fun (_ : Unit) => some (-1)) (fun v => some v))
theorem ref10_decl_step   (l : (List Dc)) (name : ByteArray) (yR : Int) (h : ref10_decl_B  l name = some yR) : Pure P G 87 [.sl .lost l.length (rows dcC l), .sc (.string name)] (.sc (.int .i64 yR)) := by
 unfold ref10_decl_B at h
 refine pureM Hd.mixed Hd.plainG (WC_body Tryz.func87 b87 ?_) (plC (layDc.plS l) (plC rfl rfl)) rfl
 revert h
 refine bndI fun res hres h => ?_
 have hlen := (limE hres).1
 replace hres := (limE hres).2
 refine go_at [] [0, 1, 5, 9, 18] 0 (sub B87 [1, 0, 1, 0, 0]) [.code (sub B87 [1, 1])] _ _ (runS 300 []) (by kernel_rfl) (foldP (fn := Tryz.f87) (m := 0) (fun v => .sc (.int .i64 v)) 0 l (fun i0 (_ : Unit) (j0 : JJ) => frm 20 0 [(0, .sl .lost l.length (rows dcC l)), (1, .sc (.string name)), (5, .sc (.int .i64 ((i0 : Nat) : Int)))] [9, 18] 0 [] 0 j0) (fun (_ : Nat) (_ : Unit) (_ : JJ) => ⟨[], 0, [], 0⟩) (fun (j : JJ) => plainL j.2 = true) (fun (_ : Unit) (jx : JJ) => frm 20 0 [] [9, 18] 0 [] 0 jx) (fun (_ : Unit) (_ : JJ) => ⟨[], 0, [], 0⟩) (fun (j : JJ) => plainL j.2 = true) ?_ ?_ 0 hres ?_ ?_ ([], []) rfl)
 rintro i0 ⟨⟩ j0 hj0 hge hq
 clear h hres
 refine WL_rnd ?_
 exact go_ex Hd.plainG [18, 36] [] [] 0 _ _ (runS 300 [pb (B := ltI ((i0 : Nat) : Int) ((l.length : Nat) : Int)) (b := false) (ltF hge)]) (by kernel_rfl) (hq ([.bool false, (jn j0 1)], []) rfl)
 clear h hres
 rintro i0 e0 ⟨⟩ j0 r hj0 he0 hi0 h k
 refine WL_rnd ?_
 revert h
 show ref10_decl_L1  name i0 e0  = some r → _
 unfold ref10_decl_L1
 let o1 : List (PC P G) := [pb (B := ltI ((i0 : Nat) : Int) ((l.length : Nat) : Int)) (b := true) (ltT hi0), pix (ix28 .lost he0)]
 refine cndI (fun hb1 => ?_) fun hb1 => ?_
 rintro ⟨⟩
 exact go_retA _ _ (runS 300 (o1 ++ [pb hb1])) (by kernel_rfl) (.rnd k) .sc
 rintro ⟨⟩
 exact go_nx Hd.plainG [1, 2, 10, 18, 36] [fq (layDc.plS l)] [] _ _ (runS 300 (o1 ++ [pb hb1, pinc i0 (by omega)])) (by kernel_rfl) (k ([.bool true, .bool false], []) rfl)
 rintro ⟨⟩ rfl jx_1 hjx_1
 revert h
 clear hres
 dsimp only [lpK]
 intro h
 have hE := Option.some.inj h
 subst hE
 exact go_retA _ _ (runX 300 []) (by kernel_rfl) .body .sc
 rintro v rfl
 dsimp only [lpK] at h
 cases h
 exact .outer .body
noncomputable def B104 : Code := bodyOf Tryz.f104
theorem b104 : Tryz.f104.body = some B104 := by kernel_rfl
noncomputable def ref07_In_L1  (s : ByteArray) (i0 : Nat) (e0 : ByteArray)  : Option (Lp Unit Unit Bool) := cond (eqB e0.data.toList s.data.toList) (some (.rt true)) (some (.nx ()))
noncomputable def ref07_In_B  (l : (List ByteArray)) (s : ByteArray) : Option Bool := (lim l.length (foldL (fun i y x => ref07_In_L1  s i y ) (fun x => ()) (l.drop 0) 0 ())).bind (lpK (fun (_ : Unit) => some false) (fun v => some v))
theorem ref07_In_step   (l : (List ByteArray)) (s : ByteArray) (yR : Bool) (h : ref07_In_B  l s = some yR) : Pure P G 104 [.sl .lost l.length (rows stC l), .sc (.string s)] (.sc (.bool yR)) := by
 unfold ref07_In_B at h
 refine pureM Hd.mixed Hd.plainG (WC_body Tryz.func104 b104 ?_) (plC (layStr.plS l) (plC rfl rfl)) rfl
 revert h
 refine bndI fun res hres h => ?_
 have hlen := (limE hres).1
 replace hres := (limE hres).2
 refine go_at [] [0, 1, 4, 5, 9, 17] 0 (sub B104 [1, 0, 1, 0, 0]) [.code (sub B104 [1, 1])] _ _ (runS 300 []) (by kernel_rfl) (foldP (fn := Tryz.f104) (m := 0) (fun v => .sc (.bool v)) 0 l (fun i0 (_ : Unit) (j0 : JJ) => frm 18 0 [(0, .sl .lost l.length (rows stC l)), (1, .sc (.string s)), (5, .sc (.int .i64 ((i0 : Nat) : Int)))] [4, 9, 17] 0 [] 0 j0) (fun (_ : Nat) (_ : Unit) (_ : JJ) => ⟨[], 0, [], 0⟩) (fun (j : JJ) => plainL j.2 = true) (fun (_ : Unit) (jx : JJ) => frm 18 0 [] [4, 9, 17] 0 [] 0 jx) (fun (_ : Unit) (_ : JJ) => ⟨[], 0, [], 0⟩) (fun (j : JJ) => plainL j.2 = true) ?_ ?_ 0 hres ?_ ?_ ([.bool false], []) rfl)
 rintro i0 ⟨⟩ j0 hj0 hge hq
 clear h hres
 refine WL_rnd ?_
 exact go_ex Hd.plainG [8, 18, 34] [] [] 0 _ _ (runS 300 [pb (B := ltI ((i0 : Nat) : Int) ((l.length : Nat) : Int)) (b := false) (ltF hge)]) (by kernel_rfl) (hq ([(jn j0 0), .bool false, (jn j0 2)], []) rfl)
 clear h hres
 rintro i0 e0 ⟨⟩ j0 r hj0 he0 hi0 h k
 refine WL_rnd ?_
 revert h
 show ref07_In_L1  s i0 e0  = some r → _
 unfold ref07_In_L1
 let o1 : List (PC P G) := [pb (B := ltI ((i0 : Nat) : Int) ((l.length : Nat) : Int)) (b := true) (ltT hi0), pix (ix141 .lost he0)]
 refine cndI (fun hb1 => ?_) fun hb1 => ?_
 rintro ⟨⟩
 exact go_retA _ _ (runS 300 (o1 ++ [pb hb1])) (by kernel_rfl) (.rnd k) .sc
 rintro ⟨⟩
 exact go_nx Hd.plainG [1, 2, 8, 10, 18, 34] [fq (layStr.plS l)] [] _ _ (runS 300 (o1 ++ [pb hb1, pinc i0 (by omega)])) (by kernel_rfl) (k ([(jn j0 0), .bool true, .bool false], []) rfl)
 rintro ⟨⟩ rfl jx_1 hjx_1
 revert h
 clear hres
 dsimp only [lpK]
 intro h
 have hE := Option.some.inj h
 subst hE
 exact go_retA _ _ (runX 300 []) (by kernel_rfl) .body .sc
 rintro v rfl
 dsimp only [lpK] at h
 cases h
 exact .outer .body
noncomputable def B141 : Code := bodyOf Tryz.f141
theorem b141 : Tryz.f141.body = some B141 := by kernel_rfl
noncomputable def ref06_Lower_B  (c : Int) : Option Bool := cond (leI 97 c) (cond (leI c 122) (some true) (some false)) (some false)
theorem ref06_Lower_step   (c : Int) (yR : Bool) (h : ref06_Lower_B  c = some yR) : Pure P G 141 [.sc (.int .u8 c)] (.sc (.bool yR)) := by
 unfold ref06_Lower_B at h
 refine pureM Hd.mixed Hd.plainG (WC_body Tryz.func141 b141 ?_) (plC rfl rfl) rfl
 revert h
 refine cndI (fun hb1 => ?_) fun hb1 => ?_
 refine cndI (fun hb2 => ?_) fun hb2 => ?_
 rintro ⟨⟩
 exact rS (runS 300 [pb hb1, pb hb2]) (by kernel_rfl)
 rintro ⟨⟩
 exact rS (runS 300 [pb hb1, pb hb2]) (by kernel_rfl)
 rintro ⟨⟩
 exact rS (runS 300 [pb hb1]) (by kernel_rfl)
noncomputable def B142 : Code := bodyOf Tryz.f142
theorem b142 : Tryz.f142.body = some B142 := by kernel_rfl
noncomputable def ref07_Keys_B   : Option (List ByteArray) := some [factS, lineS, articleS, forS, rankS, fromS, toS, knownS, whenS, unlessS, amountS, truthS, numberS, minutesS, minS, earnS, deductS, floorS, infoS, orS, andS, notS, atS, trueS, falseS, artS, weekdayS, dayS, monthS, yearS, leastS, greatestS, tableS]
theorem ref07_Keys_step    (yR : (List ByteArray)) (h : ref07_Keys_B   = some yR) : Pure P G 142 [] (.sl .lost yR.length (rows stC yR)) := by
 unfold ref07_Keys_B at h
 refine pureM Hd.mixed Hd.plainG (WC_body Tryz.func142 b142 ?_) rfl (layStr.plS yR)
 revert h
 intro h
 have hE := Option.some.inj h
 subst hE
 exact go_retA (v := .sl .full 33 (.sc (.string factS) :: .sc (.string lineS) :: .sc (.string articleS) :: .sc (.string forS) :: .sc (.string rankS) :: .sc (.string fromS) :: .sc (.string toS) :: .sc (.string knownS) :: .sc (.string whenS) :: .sc (.string unlessS) :: .sc (.string amountS) :: .sc (.string truthS) :: .sc (.string numberS) :: .sc (.string minutesS) :: .sc (.string minS) :: .sc (.string earnS) :: .sc (.string deductS) :: .sc (.string floorS) :: .sc (.string infoS) :: .sc (.string orS) :: .sc (.string andS) :: .sc (.string notS) :: .sc (.string atS) :: .sc (.string trueS) :: .sc (.string falseS) :: .sc (.string artS) :: .sc (.string weekdayS) :: .sc (.string dayS) :: .sc (.string monthS) :: .sc (.string yearS) :: .sc (.string leastS) :: .sc (.string greatestS) :: .sc (.string tableS) :: [])) _ _ (runS 300 []) (by kernel_rfl) .body (.wn (.d (.r (.r (.r (.r (.r (.r (.r (.r (.r (.r (.r (.r (.r (.r (.r (.r (.r (.r (.r (.r (.r (.r (.r (.r (.r (.r (.r (.r (.r (.r (.r (.r (.r .nil))))))))))))))))))))))))))))))))) (layStr.eq [factS, lineS, articleS, forS, rankS, fromS, toS, knownS, whenS, unlessS, amountS, truthS, numberS, minutesS, minS, earnS, deductS, floorS, infoS, orS, andS, notS, atS, trueS, falseS, artS, weekdayS, dayS, monthS, yearS, leastS, greatestS, tableS]).symm .nil) (layStr.plS [factS, lineS, articleS, forS, rankS, fromS, toS, knownS, whenS, unlessS, amountS, truthS, numberS, minutesS, minS, earnS, deductS, floorS, infoS, orS, andS, notS, atS, trueS, falseS, artS, weekdayS, dayS, monthS, yearS, leastS, greatestS, tableS]))
noncomputable def B143 : Code := bodyOf Tryz.f143
theorem b143 : Tryz.f143.body = some B143 := by kernel_rfl
noncomputable def ref06_Digit_B  (c : Int) : Option Bool := cond (leI 48 c) (cond (leI c 57) (some true) (some false)) (some false)
theorem ref06_Digit_step   (c : Int) (yR : Bool) (h : ref06_Digit_B  c = some yR) : Pure P G 143 [.sc (.int .u8 c)] (.sc (.bool yR)) := by
 unfold ref06_Digit_B at h
 refine pureM Hd.mixed Hd.plainG (WC_body Tryz.func143 b143 ?_) (plC rfl rfl) rfl
 revert h
 refine cndI (fun hb1 => ?_) fun hb1 => ?_
 refine cndI (fun hb2 => ?_) fun hb2 => ?_
 rintro ⟨⟩
 exact rS (runS 300 [pb hb1, pb hb2]) (by kernel_rfl)
 rintro ⟨⟩
 exact rS (runS 300 [pb hb1, pb hb2]) (by kernel_rfl)
 rintro ⟨⟩
 exact rS (runS 300 [pb hb1]) (by kernel_rfl)
noncomputable def B95 : Code := bodyOf Tryz.f95
theorem b95 : Tryz.f95.body = some B95 := by kernel_rfl
noncomputable def ref07_Name_L1   (i0 : Nat) (e0 : UInt8)  : Option (Lp Unit Unit Bool) := (ref06_Lower_B ((e0.toNat : Nat) : Int)).bind fun y5 => cond y5 (some (.nx ())) ((ref06_Digit_B ((e0.toNat : Nat) : Int)).bind fun y6 => cond y6 (some (.nx ())) (cond (eqI ((e0.toNat : Nat) : Int) 95) (some (.nx ())) (some (.rt false))))
noncomputable def ref07_Name_B  (s : ByteArray) : Option Bool := cond (ltI ((s.data.toList.length : Nat) : Int) 1) (some false) (cond (ltI 16 ((s.data.toList.length : Nat) : Int)) (some false) ((s.data.toList[0]?).bind fun c1 => (ref06_Lower_B ((c1.toNat : Nat) : Int)).bind fun y2 => cond y2 ((ref07_Keys_B).bind fun y3 => (ref07_In_B y3 s).bind fun y4 => cond y4 (some false) ((lim s.data.toList.length (foldL (fun i y x => ref07_Name_L1   i y ) (fun x => ()) (s.data.toList.drop 0) 0 ())).bind (lpK (fun (_ : Unit) => some true) (fun v => some v)))) (some false)))
theorem ref07_Name_step   (s : ByteArray) (yR : Bool) (h : ref07_Name_B  s = some yR) : Pure P G 95 [.sc (.string s)] (.sc (.bool yR)) := by
 unfold ref07_Name_B at h
 refine pureM Hd.mixed Hd.plainG (WC_body Tryz.func95 b95 ?_) (plC rfl rfl) rfl
 revert h
 refine cndI (fun hb1 => ?_) fun hb1 => ?_
 rintro ⟨⟩
 exact rS (runS 300 [pb hb1]) (by kernel_rfl)
 refine cndI (fun hb2 => ?_) fun hb2 => ?_
 rintro ⟨⟩
 exact rS (runS 300 [pb hb1, pb hb2]) (by kernel_rfl)
 refine bndI fun c1 hc1 => ?_
 refine bndI fun y2 hy2 => ?_
 refine cndI (fun hv => ?_) fun hv => ?_
 subst hv
 refine bndI fun y3 hy3 => ?_
 refine bndI fun y4 hy4 => ?_
 let o1 : List (PC P G) := [pb hb1, pb hb2, pst (ixb9 hc1), pcall (ref06_Lower_step ((c1.toNat : Nat) : Int) true hy2), pcall (ref07_Keys_step  y3 hy3)]
 refine cndI (fun hv => ?_) fun hv => ?_
 subst hv
 rintro ⟨⟩
 exact rS (runS 300 (o1 ++ [pcall (ref07_In_step y3 s true hy4)])) (by kernel_rfl)
 subst hv
 refine bndI fun res hres h => ?_
 have hlen := (limE hres).1
 replace hres := (limE hres).2
 refine go_at [] [0, 2, 3, 6, 7, 10, 11, 12, 15, 16, 17, 18, 21, 22, 26, 32, 33, 34, 38, 39, 40, 41, 45, 46] 0 (sub B95 [1, 1, 0, 1, 0, 0]) [.code (sub B95 [1, 1, 1])] _ _ (runS 300 (o1 ++ [pcall (ref07_In_step y3 s false hy4)])) (by kernel_rfl) (foldP (fn := Tryz.f95) (m := 0) (fun v => .sc (.bool v)) 0 s.data.toList (fun i0 (_ : Unit) (j0 : JJ) => frm 47 0 [(0, .sc (.string s)), (3, .sc (.int .i64 ((i0 : Nat) : Int)))] [2, 6, 7, 10, 11, 12, 15, 16, 17, 18, 21, 22, 26, 32, 33, 34, 38, 39, 40, 41, 45, 46] 0 [] 0 j0) (fun (_ : Nat) (_ : Unit) (_ : JJ) => ⟨[], 0, [], 0⟩) (fun (j : JJ) => plainL j.2 = true) (fun (_ : Unit) (jx : JJ) => frm 47 0 [] [2, 6, 7, 10, 11, 12, 15, 16, 17, 18, 21, 22, 26, 32, 33, 34, 38, 39, 40, 41, 45, 46] 0 [] 0 jx) (fun (_ : Unit) (_ : JJ) => ⟨[], 0, [], 0⟩) (fun (j : JJ) => plainL j.2 = true) ?_ ?_ 0 hres ?_ ?_ ([.bool false, .bool false, .bool false, .bool false, .bool false, .bool false, .bool true, .bool false, .bool false, .bool false, .bool false, .bool false], []) rfl)
 rintro i0 ⟨⟩ j0 hj0 hge hq
 clear h hres
 refine WL_rnd ?_
 exact go_ex Hd.plainG [4, 12, 14, 20, 22, 24, 30, 32, 34, 36, 42, 44, 52, 64, 66, 68, 76, 78, 80, 82, 90, 92] [] [] 0 _ _ (runS 300 [pb (B := ltI ((i0 : Nat) : Int) ((s.data.toList.length : Nat) : Int)) (b := false) (ltF hge)]) (by kernel_rfl) (hq ([(jn j0 0), (jn j0 1), (jn j0 2), (jn j0 3), (jn j0 4), (jn j0 5), (jn j0 6), (jn j0 7), (jn j0 8), (jn j0 9), (jn j0 10), (jn j0 11), .bool false, (jn j0 13), (jn j0 14), (jn j0 15), (jn j0 16), (jn j0 17), (jn j0 18), (jn j0 19), (jn j0 20), (jn j0 21)], []) rfl)
 clear h hres
 rintro i0 e0 ⟨⟩ j0 r hj0 he0 hi0 h k
 refine WL_rnd ?_
 revert h
 show ref07_Name_L1   i0 e0  = some r → _
 unfold ref07_Name_L1
 refine bndI fun y5 hy5 => ?_
 let o2 : List (PC P G) := [pb (B := ltI ((i0 : Nat) : Int) ((s.data.toList.length : Nat) : Int)) (b := true) (ltT hi0), pst (ixb9 he0)]
 refine cndI (fun hv => ?_) fun hv => ?_
 subst hv
 rintro ⟨⟩
 exact go_nx Hd.plainG [0, 4, 6, 12, 14, 20, 22, 24, 30, 32, 34, 36, 42, 44, 52, 64, 66, 68, 76, 78, 80, 82, 90, 92] [] [] _ _ (runS 300 (o2 ++ [pcall (ref06_Lower_step ((e0.toNat : Nat) : Int) true hy5), pinc i0 (by omega)])) (by kernel_rfl) (k ([(jn j0 0), (jn j0 1), (jn j0 2), (jn j0 3), (jn j0 4), (jn j0 5), (jn j0 6), (jn j0 7), (jn j0 8), (jn j0 9), (jn j0 10), (jn j0 11), .bool true, .bool true, .bool false, .bool false, undef, undef, .bool false, .bool false, undef, .bool false], []) rfl)
 subst hv
 refine bndI fun y6 hy6 => ?_
 let o3 : List (PC P G) := o2 ++ [pcall (ref06_Lower_step ((e0.toNat : Nat) : Int) false hy5), pst (ixb9 he0)]
 refine cndI (fun hv => ?_) fun hv => ?_
 subst hv
 rintro ⟨⟩
 exact go_nx Hd.plainG [0, 4, 6, 12, 14, 20, 22, 24, 30, 32, 34, 36, 42, 44, 52, 64, 66, 68, 76, 78, 80, 82, 90, 92] [] [] _ _ (runS 300 (o3 ++ [pcall (ref06_Digit_step ((e0.toNat : Nat) : Int) true hy6), pinc i0 (by omega)])) (by kernel_rfl) (k ([(jn j0 0), (jn j0 1), (jn j0 2), (jn j0 3), (jn j0 4), (jn j0 5), (jn j0 6), (jn j0 7), (jn j0 8), (jn j0 9), (jn j0 10), (jn j0 11), .bool true, .bool false, .bool true, .bool true, .bool true, .bool false, .bool false, .bool false, undef, .bool false], []) rfl)
 subst hv
 refine cndI (fun hb3 => ?_) fun hb3 => ?_
 rintro ⟨⟩
 exact go_nx Hd.plainG [0, 4, 6, 12, 14, 20, 22, 24, 30, 32, 34, 36, 42, 44, 52, 64, 66, 68, 76, 78, 80, 82, 90, 92] [] [] _ _ (runS 300 (o3 ++ [pcall (ref06_Digit_step ((e0.toNat : Nat) : Int) false hy6), pst (ixb9 he0), pn hb3, pinc i0 (by omega)])) (by kernel_rfl) (k ([(jn j0 0), (jn j0 1), (jn j0 2), (jn j0 3), (jn j0 4), (jn j0 5), (jn j0 6), (jn j0 7), (jn j0 8), (jn j0 9), (jn j0 10), (jn j0 11), .bool true, .bool false, .bool true, .bool true, .bool false, .bool true, .bool true, .bool true, .bool false, .bool false], []) rfl)
 rintro ⟨⟩
 exact go_retA _ _ (runS 300 (o3 ++ [pcall (ref06_Digit_step ((e0.toNat : Nat) : Int) false hy6), pst (ixb9 he0), pn hb3])) (by kernel_rfl) (.rnd k) .sc
 rintro ⟨⟩ rfl jx_7 hjx_7
 revert h
 clear hres
 dsimp only [lpK]
 intro h
 have hE := Option.some.inj h
 subst hE
 exact go_retA _ _ (runX 300 []) (by kernel_rfl) .body .sc
 rintro v rfl
 dsimp only [lpK] at h
 cases h
 exact .outer .body
 subst hv
 rintro ⟨⟩
 exact rS (runS 300 [pb hb1, pb hb2, pst (ixb9 hc1), pcall (ref06_Lower_step ((c1.toNat : Nat) : Int) false hy2)]) (by kernel_rfl)
noncomputable def B148 : Code := bodyOf Tryz.f148
theorem b148 : Tryz.f148.body = some B148 := by kernel_rfl
noncomputable def ref06_Upper_B  (c : Int) : Option Bool := cond (leI 65 c) (cond (leI c 90) (some true) (some false)) (some false)
theorem ref06_Upper_step   (c : Int) (yR : Bool) (h : ref06_Upper_B  c = some yR) : Pure P G 148 [.sc (.int .u8 c)] (.sc (.bool yR)) := by
 unfold ref06_Upper_B at h
 refine pureM Hd.mixed Hd.plainG (WC_body Tryz.func148 b148 ?_) (plC rfl rfl) rfl
 revert h
 refine cndI (fun hb1 => ?_) fun hb1 => ?_
 refine cndI (fun hb2 => ?_) fun hb2 => ?_
 rintro ⟨⟩
 exact rS (runS 300 [pb hb1, pb hb2]) (by kernel_rfl)
 rintro ⟨⟩
 exact rS (runS 300 [pb hb1, pb hb2]) (by kernel_rfl)
 rintro ⟨⟩
 exact rS (runS 300 [pb hb1]) (by kernel_rfl)
noncomputable def B103 : Code := bodyOf Tryz.f103
theorem b103 : Tryz.f103.body = some B103 := by kernel_rfl
noncomputable def ref07_Cur_B  (s : ByteArray) : Option Bool := cond (eqI ((s.data.toList.length : Nat) : Int) 3) ((s.data.toList[0]?).bind fun c1 => (ref06_Upper_B ((c1.toNat : Nat) : Int)).bind fun y2 => cond y2 ((s.data.toList[1]?).bind fun c3 => (ref06_Upper_B ((c3.toNat : Nat) : Int)).bind fun y4 => cond y4 ((s.data.toList[2]?).bind fun c5 => (ref06_Upper_B ((c5.toNat : Nat) : Int)).bind fun y6 => some y6) (some false)) (some false)) (some false)
theorem ref07_Cur_step   (s : ByteArray) (yR : Bool) (h : ref07_Cur_B  s = some yR) : Pure P G 103 [.sc (.string s)] (.sc (.bool yR)) := by
 unfold ref07_Cur_B at h
 refine pureM Hd.mixed Hd.plainG (WC_body Tryz.func103 b103 ?_) (plC rfl rfl) rfl
 revert h
 refine cndI (fun hb1 => ?_) fun hb1 => ?_
 refine bndI fun c1 hc1 => ?_
 refine bndI fun y2 hy2 => ?_
 refine cndI (fun hv => ?_) fun hv => ?_
 subst hv
 refine bndI fun c3 hc3 => ?_
 refine bndI fun y4 hy4 => ?_
 let o1 : List (PC P G) := [pb hb1, pst (ixb9 hc1), pcall (ref06_Upper_step ((c1.toNat : Nat) : Int) true hy2), pst (ixb9 hc3)]
 refine cndI (fun hv => ?_) fun hv => ?_
 subst hv
 refine bndI fun c5 hc5 => ?_
 refine bndI fun y6 hy6 => ?_
 intro h
 have hE := Option.some.inj h
 subst hE
 exact rS (runS 300 (o1 ++ [pcall (ref06_Upper_step ((c3.toNat : Nat) : Int) true hy4), pst (ixb9 hc5), pcall (ref06_Upper_step ((c5.toNat : Nat) : Int) y6 hy6)])) (by kernel_rfl)
 subst hv
 rintro ⟨⟩
 exact rS (runS 300 (o1 ++ [pcall (ref06_Upper_step ((c3.toNat : Nat) : Int) false hy4)])) (by kernel_rfl)
 subst hv
 rintro ⟨⟩
 exact rS (runS 300 [pb hb1, pst (ixb9 hc1), pcall (ref06_Upper_step ((c1.toNat : Nat) : Int) false hy2)]) (by kernel_rfl)
 rintro ⟨⟩
 exact rS (runS 300 [pb hb1]) (by kernel_rfl)
noncomputable def B96 : Code := bodyOf Tryz.f96
theorem b96 : Tryz.f96.body = some B96 := by kernel_rfl
noncomputable def ref10_Unit_B  (s : ByteArray) : Option Bool := cond (eqB s.data.toList truthS.data.toList) (some true) (cond (eqB s.data.toList numberS.data.toList) (some true) (cond (eqB s.data.toList minutesS.data.toList) (some true) ((ref07_Cur_B s).bind fun y1 => some y1)))
theorem ref10_Unit_step   (s : ByteArray) (yR : Bool) (h : ref10_Unit_B  s = some yR) : Pure P G 96 [.sc (.string s)] (.sc (.bool yR)) := by
 unfold ref10_Unit_B at h
 refine pureM Hd.mixed Hd.plainG (WC_body Tryz.func96 b96 ?_) (plC rfl rfl) rfl
 revert h
 refine cndI (fun hb1 => ?_) fun hb1 => ?_
 rintro ⟨⟩
 exact rS (runS 300 [pb hb1]) (by kernel_rfl)
 refine cndI (fun hb2 => ?_) fun hb2 => ?_
 rintro ⟨⟩
 exact rS (runS 300 [pb hb1, pb hb2]) (by kernel_rfl)
 refine cndI (fun hb3 => ?_) fun hb3 => ?_
 rintro ⟨⟩
 exact rS (runS 300 [pb hb1, pb hb2, pb hb3]) (by kernel_rfl)
 refine bndI fun y1 hy1 => ?_
 intro h
 have hE := Option.some.inj h
 subst hE
 exact rS (runS 300 [pb hb1, pb hb2, pb hb3, pcall (ref07_Cur_step s y1 hy1)]) (by kernel_rfl)
noncomputable def B57 : Code := bodyOf Tryz.f57
theorem b57 : Tryz.f57.body = some B57 := by kernel_rfl
noncomputable def ref10_decls_L1  (l : (List Dc)) (low : Int) (high : Int) (i0 : Nat) (e0 : Dc)  : Option (Lp Unit Unit Bool) := (ref07_Name_B e0.name).bind fun y1 => cond y1 ((ref10_Unit_B e0.unit).bind fun y2 => cond y2 (cond (ltI e0.role low) (some (.rt false)) (cond (ltI high e0.role) (some (.rt false)) ((ref10_decl_B l e0.name).bind fun y3 => cond (eqI y3 ((i0 : Nat) : Int)) (some (.nx ())) (some (.rt false))))) (some (.rt false))) (some (.rt false))
noncomputable def ref10_decls_B  (l : (List Dc)) (low : Int) (high : Int) : Option Bool := (lim l.length (foldL (fun i y x => ref10_decls_L1  l low high i y ) (fun x => ()) (l.drop 0) 0 ())).bind (lpK (fun (_ : Unit) => cond (leI ((l.length : Nat) : Int) 32) (some true) (some false)) (fun v => some v))
theorem ref10_decls_step   (l : (List Dc)) (low : Int) (high : Int) (yR : Bool) (h : ref10_decls_B  l low high = some yR) : Pure P G 57 [.sl .lost l.length (rows dcC l), .sc (.int .i64 low), .sc (.int .i64 high)] (.sc (.bool yR)) := by
 unfold ref10_decls_B at h
 refine pureM Hd.mixed Hd.plainG (WC_body Tryz.func57 b57 ?_) (plC (layDc.plS l) (plC rfl (plC rfl rfl))) rfl
 revert h
 refine bndI fun res hres h => ?_
 have hlen := (limE hres).1
 replace hres := (limE hres).2
 refine go_at [] [0, 1, 2, 6, 7, 11, 19, 20, 21, 27, 28, 29, 30, 37, 38, 39, 46, 47, 48, 57, 58, 61] 0 (sub B57 [1, 0, 1, 0, 0]) [.code (sub B57 [1, 1])] _ _ (runS 300 []) (by kernel_rfl) (foldP (fn := Tryz.f57) (m := 0) (fun v => .sc (.bool v)) 0 l (fun i0 (_ : Unit) (j0 : JJ) => frm 62 0 [(0, .sl .lost l.length (rows dcC l)), (1, .sc (.int .i64 low)), (2, .sc (.int .i64 high)), (7, .sc (.int .i64 ((i0 : Nat) : Int)))] [6, 11, 19, 20, 21, 27, 28, 29, 30, 37, 38, 39, 46, 47, 48, 57, 58, 61] 0 [] 0 j0) (fun (_ : Nat) (_ : Unit) (_ : JJ) => ⟨[], 0, [], 0⟩) (fun (j : JJ) => plainL j.2 = true) (fun (_ : Unit) (jx : JJ) => frm 62 0 [(0, .sl .lost l.length (rows dcC l))] [6, 11, 19, 20, 21, 27, 28, 29, 30, 37, 38, 39, 46, 47, 48, 57, 58, 61] 0 [] 0 jx) (fun (_ : Unit) (_ : JJ) => ⟨[], 0, [], 0⟩) (fun (j : JJ) => plainL j.2 = true) ?_ ?_ 0 hres ?_ ?_ ([.bool false], []) rfl)
 rintro i0 ⟨⟩ j0 hj0 hge hq
 clear h hres
 refine WL_rnd ?_
 exact go_ex Hd.plainG [1, 12, 22, 38, 40, 42, 54, 56, 58, 60, 74, 76, 78, 92, 94, 96, 114, 116, 122] [fq (layDc.plS l)] [] 0 _ _ (runS 300 [pb (B := ltI ((i0 : Nat) : Int) ((l.length : Nat) : Int)) (b := false) (ltF hge)]) (by kernel_rfl) (hq ([(jn j0 0), .bool false, (jn j0 2), (jn j0 3), (jn j0 4), (jn j0 5), (jn j0 6), (jn j0 7), (jn j0 8), (jn j0 9), (jn j0 10), (jn j0 11), (jn j0 12), (jn j0 13), (jn j0 14), (jn j0 15), (jn j0 16), (jn j0 17)], []) rfl)
 clear h hres
 rintro i0 e0 ⟨⟩ j0 r hj0 he0 hi0 h k
 refine WL_rnd ?_
 revert h
 show ref10_decls_L1  l low high i0 e0  = some r → _
 unfold ref10_decls_L1
 refine bndI fun y1 hy1 => ?_
 let o1 : List (PC P G) := [pb (B := ltI ((i0 : Nat) : Int) ((l.length : Nat) : Int)) (b := true) (ltT hi0), pix (ix28 .lost he0)]
 refine cndI (fun hv => ?_) fun hv => ?_
 subst hv
 refine bndI fun y2 hy2 => ?_
 let o2 : List (PC P G) := o1 ++ [pcall (ref07_Name_step e0.name true hy1), pix (ix28 .lost he0)]
 refine cndI (fun hv => ?_) fun hv => ?_
 subst hv
 let o3 : List (PC P G) := o2 ++ [pcall (ref10_Unit_step e0.unit true hy2), pix (ix28 .lost he0)]
 refine cndI (fun hb1 => ?_) fun hb1 => ?_
 rintro ⟨⟩
 exact go_retA _ _ (runS 300 (o3 ++ [pb hb1])) (by kernel_rfl) (.rnd k) .sc
 refine cndI (fun hb2 => ?_) fun hb2 => ?_
 rintro ⟨⟩
 exact go_retA _ _ (runS 300 (o3 ++ [pb hb1, pix (ix28 .lost he0), pb hb2])) (by kernel_rfl) (.rnd k) .sc
 refine bndI fun y3 hy3 => ?_
 let o4 : List (PC P G) := o3 ++ [pb hb1, pix (ix28 .lost he0), pb hb2, pix (ix28 .lost he0), pcall (ref10_decl_step l e0.name y3 hy3)]
 refine cndI (fun hb3 => ?_) fun hb3 => ?_
 rintro ⟨⟩
 exact go_nx Hd.plainG [1, 2, 4, 12, 14, 22, 38, 40, 42, 54, 56, 58, 60, 74, 76, 78, 92, 94, 96, 114, 116, 122] [fq (layDc.plS l)] [] _ _ (runS 300 (o4 ++ [pn hb3, pinc i0 (by omega)])) (by kernel_rfl) (k ([(jn j0 0), .bool true, .bool true, .bool false, .bool false, .bool true, .bool false, .bool false, .bool false, .bool false, .bool false, .bool false, .bool false, .bool false, .bool false, .bool false, .bool false, (jn j0 17)], []) rfl)
 rintro ⟨⟩
 exact go_retA _ _ (runS 300 (o4 ++ [pn hb3])) (by kernel_rfl) (.rnd k) .sc
 subst hv
 rintro ⟨⟩
 exact go_retA _ _ (runS 300 (o2 ++ [pcall (ref10_Unit_step e0.unit false hy2)])) (by kernel_rfl) (.rnd k) .sc
 subst hv
 rintro ⟨⟩
 exact go_retA _ _ (runS 300 (o1 ++ [pcall (ref07_Name_step e0.name false hy1)])) (by kernel_rfl) (.rnd k) .sc
 rintro ⟨⟩ rfl jx_4 hjx_4
 revert h
 clear hres
 dsimp only [lpK]
 refine cndI (fun hb4 => ?_) fun hb4 => ?_
 intro h
 have hE := Option.some.inj h
 subst hE
 exact go_retA _ _ (runX 300 [pb hb4]) (by kernel_rfl) .body .sc
 intro h
 have hE := Option.some.inj h
 subst hE
 exact go_retA _ _ (runX 300 [pb hb4]) (by kernel_rfl) .body .sc
 rintro v rfl
 dsimp only [lpK] at h
 cases h
 exact .outer .body
noncomputable def B58 : Code := bodyOf Tryz.f58
theorem b58 : Tryz.f58.body = some B58 := by kernel_rfl
noncomputable def ref10_numbered_L1  (number : Int) (i0 : Nat) (e0 : Ar)  : Option (Lp Unit Unit Int) := cond (eqI e0.number number) (some (.rt ((i0 : Nat) : Int))) (some (.nx ()))
noncomputable def ref10_numbered_B  (c : Co) (number : Int) : Option Int := (lim c.arts.length (foldL (fun i y x => ref10_numbered_L1  number i y ) (fun x => ()) (c.arts.drop 0) 0 ())).bind (lpK (fun (_ : Unit) => some (-1)) (fun v => some v))
theorem ref10_numbered_step   (c : Co) (number : Int) (yR : Int) (h : ref10_numbered_B  c number = some yR) : Pure P G 58 [.agg (coC c), .sc (.int .i64 number)] (.sc (.int .i64 yR)) := by
 unfold ref10_numbered_B at h
 refine pureM Hd.mixed Hd.plainG (WC_body Tryz.func58 b58 ?_) (plC (layCo.plG c) (plC rfl rfl)) rfl
 revert h
 refine bndI fun res hres h => ?_
 have hlen := (limE hres).1
 replace hres := (limE hres).2
 refine go_at [] [0, 1, 2, 5, 10, 20] 0 (sub B58 [1, 0, 1, 0, 0]) [.code (sub B58 [1, 1])] _ _ (runS 300 []) (by kernel_rfl) (foldP (fn := Tryz.f58) (m := 0) (fun v => .sc (.int .i64 v)) 0 c.arts (fun i0 (_ : Unit) (j0 : JJ) => frm 22 0 [(1, .sc (.int .i64 number)), (2, .ptr 0 0), (5, .sc (.int .i64 ((i0 : Nat) : Int)))] [10, 20] 0 [0] 0 j0) (fun (_ : Nat) (_ : Unit) (_ : JJ) => ⟨[(0, .cells (coC c))], 1, [], 0⟩) (fun (j : JJ) => plainL j.2 = true) (fun (_ : Unit) (jx : JJ) => frm 22 0 [] [10, 20] 0 [0] 0 jx) (fun (_ : Unit) (_ : JJ) => ⟨[(0, .cells (coC c))], 1, [], 0⟩) (fun (j : JJ) => plainL j.2 = true) ?_ ?_ 0 hres ?_ ?_ ([], [.agg (coC c)]) (plC (layCo.plG c) rfl))
 rintro i0 ⟨⟩ j0 hj0 hge hq
 clear h hres
 refine WL_rnd ?_
 exact go_ex Hd.plainG [1, 20, 40] [fq (gn_pl hj0 0)] [fbp (coC c) (layCo.pl c)] 0 _ _ (runS 300 [pb (B := ltI ((i0 : Nat) : Int) ((c.arts.length : Nat) : Int)) (b := false) (ltF hge)]) (by kernel_rfl) (hq ([.bool false, (jn j0 1)], [(gn j0 0)]) (plC (gn_pl hj0 0) rfl))
 clear h hres
 rintro i0 e0 ⟨⟩ j0 r hj0 he0 hi0 h k
 refine WL_rnd ?_
 revert h
 show ref10_numbered_L1  number i0 e0  = some r → _
 unfold ref10_numbered_L1
 let o1 : List (PC P G) := [pb (B := ltI ((i0 : Nat) : Int) ((c.arts.length : Nat) : Int)) (b := true) (ltT hi0), pix (ix29 .lost he0)]
 refine cndI (fun hb1 => ?_) fun hb1 => ?_
 rintro ⟨⟩
 exact go_retA _ _ (runS 300 (o1 ++ [pb hb1])) (by kernel_rfl) (.rnd k) .sc
 rintro ⟨⟩
 exact go_nx Hd.plainG [1, 2, 4, 10, 20, 40] [fq (gn_pl hj0 0)] [fbp (coC c) (layCo.pl c)] _ _ (runS 300 (o1 ++ [pb hb1, pinc i0 (by omega)])) (by kernel_rfl) (k ([.bool true, .bool false], [(gn j0 0)]) (plC (gn_pl hj0 0) rfl))
 rintro ⟨⟩ rfl jx_1 hjx_1
 revert h
 clear hres
 dsimp only [lpK]
 intro h
 have hE := Option.some.inj h
 subst hE
 exact go_retA _ _ (runX 300 []) (by kernel_rfl) .body .sc
 rintro v rfl
 dsimp only [lpK] at h
 cases h
 exact .outer .body
noncomputable def B138 : Code := bodyOf Tryz.f138
theorem b138 : Tryz.f138.body = some B138 := by kernel_rfl
noncomputable def ref10_Flat_L1 (r_ref10_Flat : Ex → Int → Option Bool) (limit : Int) (i0 : Nat) (e0 : Ex)  : Option (Lp Unit Unit Bool) := (r_ref10_Flat e0 (wsub limit 1)).bind fun y1 => cond y1 (some (.nx ())) (some (.rt false))
noncomputable def ref10_Flat_B (r_ref10_Flat : Ex → Int → Option Bool) (e : Ex) (limit : Int) : Option Bool := cond (ltI limit 1) (some false) ((lim e.kids.length (foldL (fun i y x => ref10_Flat_L1 r_ref10_Flat limit i y ) (fun x => ()) (e.kids.drop 0) 0 ())).bind (lpK (fun (_ : Unit) => some true) (fun v => some v)))
theorem ref10_Flat_step (r_ref10_Flat : Ex → Int → Option Bool) (hr_ref10_Flat : ∀ (e : Ex) (limit : Int) (yR : Bool), r_ref10_Flat e limit = some yR → Pure P G 138 [.agg (exC e), .sc (.int .i64 limit)] (.sc (.bool yR))) (e : Ex) (limit : Int) (yR : Bool) (h : ref10_Flat_B r_ref10_Flat e limit = some yR) : Pure P G 138 [.agg (exC e), .sc (.int .i64 limit)] (.sc (.bool yR)) := by
 unfold ref10_Flat_B at h
 refine pureM Hd.mixed Hd.plainG (WC_body Tryz.func138 b138 ?_) (plC (layEx.plG e) (plC rfl rfl)) rfl
 revert h
 refine cndI (fun hb1 => ?_) fun hb1 => ?_
 rintro ⟨⟩
 exact rS (runS 300 [pb hb1]) (by kernel_rfl)
 refine bndI fun res hres h => ?_
 have hlen := (limE hres).1
 replace hres := (limE hres).2
 refine go_at [] [0, 1, 2, 4, 5, 7, 12, 19, 22, 23] 0 (sub B138 [1, 1, 0, 1, 0, 0]) [.code (sub B138 [1, 1, 1])] _ _ (runS 300 [pb hb1]) (by kernel_rfl) (foldP (fn := Tryz.f138) (m := 0) (fun v => .sc (.bool v)) 0 e.kids (fun i0 (_ : Unit) (j0 : JJ) => frm 24 0 [(1, .sc (.int .i64 limit)), (2, .ptr 0 0), (5, .sc (.int .i64 ((i0 : Nat) : Int)))] [4, 7, 12, 22, 23] 0 [0, 19] 0 j0) (fun (_ : Nat) (_ : Unit) (_ : JJ) => ⟨[(0, .cells (exC e))], 1, [], 0⟩) (fun (j : JJ) => plainL j.2 = true) (fun (_ : Unit) (jx : JJ) => frm 24 0 [] [4, 7, 12, 22, 23] 0 [0, 19] 0 jx) (fun (_ : Unit) (_ : JJ) => ⟨[(0, .cells (exC e))], 1, [], 0⟩) (fun (j : JJ) => plainL j.2 = true) ?_ ?_ 0 hres ?_ ?_ ([.bool false, .bool false], [.agg (exC e), .sc undef]) (plC (layEx.plG e) (plC rfl rfl)))
 rintro i0 ⟨⟩ j0 hj0 hge hq
 clear h hres
 refine WL_rnd ?_
 exact go_ex Hd.plainG [1, 8, 14, 24, 39, 44, 46] [fq (gn_pl hj0 0), fq (gn_pl hj0 1)] [fbp (exC e) (layEx.pl e)] 0 _ _ (runS 300 [pb (B := ltI ((i0 : Nat) : Int) ((e.kids.length : Nat) : Int)) (b := false) (ltF hge)]) (by kernel_rfl) (hq ([(jn j0 0), (jn j0 1), .bool false, (jn j0 3), (jn j0 4)], [(gn j0 0), (gn j0 1)]) (plC (gn_pl hj0 0) (plC (gn_pl hj0 1) rfl)))
 clear h hres
 rintro i0 e0 ⟨⟩ j0 r hj0 he0 hi0 h k
 refine WL_rnd ?_
 revert h
 show ref10_Flat_L1 r_ref10_Flat limit i0 e0  = some r → _
 unfold ref10_Flat_L1
 refine bndI fun y1 hy1 => ?_
 let o1 : List (PC P G) := [pb (B := ltI ((i0 : Nat) : Int) ((e.kids.length : Nat) : Int)) (b := true) (ltT hi0), pix (ix58 .lost he0), pk]
 refine cndI (fun hv => ?_) fun hv => ?_
 subst hv
 rintro ⟨⟩
 exact go_nx Hd.plainG [1, 2, 4, 8, 10, 14, 24, 39, 44, 46] [fq (gn_pl hj0 0), fq (layEx.plG e0)] [fbp (exC e) (layEx.pl e)] _ _ (runS 300 (o1 ++ [pcall (hr_ref10_Flat e0 (wsub limit 1) true hy1), pinc i0 (by omega)])) (by kernel_rfl) (k ([(jn j0 0), (jn j0 1), .bool true, .bool true, .bool false], [(gn j0 0), .agg (exC e0)]) (plC (gn_pl hj0 0) (plC (layEx.plG e0) rfl)))
 subst hv
 rintro ⟨⟩
 exact go_retA _ _ (runS 300 (o1 ++ [pcall (hr_ref10_Flat e0 (wsub limit 1) false hy1)])) (by kernel_rfl) (.rnd k) .sc
 rintro ⟨⟩ rfl jx_2 hjx_2
 revert h
 clear hres
 dsimp only [lpK]
 intro h
 have hE := Option.some.inj h
 subst hE
 exact go_retA _ _ (runX 300 []) (by kernel_rfl) .body .sc
 rintro v rfl
 dsimp only [lpK] at h
 cases h
 exact .outer .body
noncomputable def ref10_Flat_M : Nat → Ex → Int → Option Bool
 | 0, _, _ => none
 | qn + 1, e, limit => ref10_Flat_B (ref10_Flat_M qn) e limit
theorem ref10_Flat_all : ∀ qn : Nat, ∀ (e : Ex) (limit : Int) (yR : Bool), ref10_Flat_M qn e limit = some yR → Pure P G 138 [.agg (exC e), .sc (.int .i64 limit)] (.sc (.bool yR)) := by
 intro qn
 induction qn with
 | zero => exact (fun _ _ _ h => by simp only [ref10_Flat_M] at h; cases h)
 | succ qn ih => exact (fun e limit yR h => ref10_Flat_step _ ih e limit yR (by rw [ref10_Flat_M] at h; exact h))
noncomputable def ref10_Flat_R (e : Ex) (limit : Int) : Option Bool := evt (fun qn => ref10_Flat_M qn e limit)
theorem ref10_Flat_ok (e : Ex) (limit : Int) (yR : Bool) (h : ref10_Flat_R e limit = some yR) : Pure P G 138 [.agg (exC e), .sc (.int .i64 limit)] (.sc (.bool yR)) := by
 obtain ⟨qn, h⟩ := evtE h
 exact (ref10_Flat_all qn) e limit yR h
noncomputable def B89 : Code := bodyOf Tryz.f89
theorem b89 : Tryz.f89.body = some B89 := by kernel_rfl
noncomputable def ref10_within_B  (e : Ex) : Option Bool := (ref10_Small_B e 400).bind fun y1 => cond y1 ((ref10_Flat_R e 40).bind fun y2 => some y2) (some false)
theorem ref10_within_step   (e : Ex) (yR : Bool) (h : ref10_within_B  e = some yR) : Pure P G 89 [.agg (exC e)] (.sc (.bool yR)) := by
 unfold ref10_within_B at h
 refine pureM Hd.mixed Hd.plainG (WC_body Tryz.func89 b89 ?_) (plC (layEx.plG e) rfl) rfl
 revert h
 refine bndI fun y1 hy1 => ?_
 refine cndI (fun hv => ?_) fun hv => ?_
 subst hv
 refine bndI fun y2 hy2 => ?_
 intro h
 have hE := Option.some.inj h
 subst hE
 exact rS (runS 300 [pcall (ref10_Small_step e 400 true hy1), pcall (ref10_Flat_ok e 40 y2 hy2)]) (by kernel_rfl)
 subst hv
 rintro ⟨⟩
 exact rS (runS 300 [pcall (ref10_Small_step e 400 false hy1)]) (by kernel_rfl)
noncomputable def B144 : Code := bodyOf Tryz.f144
theorem b144 : Tryz.f144.body = some B144 := by kernel_rfl
noncomputable def ref10_leaf_B  (c : Co) (e : Ex) : Option Bool := cond (eqI e.op 1) ((ref10_Unit_B e.unit).bind fun y1 => cond y1 (cond (leI 0 e.n) (cond (leI e.n 999999999999) (cond (eqB e.unit.data.toList truthS.data.toList) (cond (leI e.n 1) (some true) (some false)) (some true)) (some false)) (some false)) (some false)) (cond (eqI e.op 2) (cond (leI 0 e.n) (cond (ltI e.n ((c.facts.length : Nat) : Int)) ((geti c.facts e.n).bind fun x2 => cond (eqB e.unit.data.toList x2.unit.data.toList) (some true) (some false)) (some false)) (some false)) (cond (eqI e.op 3) ((ref10_numbered_B c e.n).bind fun y3 => cond (leI 0 y3) ((geti c.arts y3).bind fun x4 => cond (leI 0 x4.line) (cond (ltI x4.line ((c.lines.length : Nat) : Int)) ((geti c.lines x4.line).bind fun x5 => cond (eqB e.unit.data.toList x5.unit.data.toList) (some true) (some false)) (some false)) (some false)) (some false)) (cond (eqI e.op 4) (cond (leI 1 e.n) (cond (leI e.n 4) (cond (eqB e.unit.data.toList numberS.data.toList) (some true) (some false)) (some false)) (some false)) (some false))))
theorem ref10_leaf_step   (c : Co) (e : Ex) (yR : Bool) (h : ref10_leaf_B  c e = some yR) : Pure P G 144 [.agg (coC c), .agg (exC e)] (.sc (.bool yR)) := by
 unfold ref10_leaf_B at h
 refine pureM Hd.mixed Hd.plainG (WC_body Tryz.func144 b144 ?_) (plC (layCo.plG c) (plC (layEx.plG e) rfl)) rfl
 revert h
 refine cndI (fun hb1 => ?_) fun hb1 => ?_
 refine bndI fun y1 hy1 => ?_
 refine cndI (fun hv => ?_) fun hv => ?_
 subst hv
 let o1 : List (PC P G) := [pb hb1, pcall (ref10_Unit_step e.unit true hy1)]
 refine cndI (fun hb2 => ?_) fun hb2 => ?_
 refine cndI (fun hb3 => ?_) fun hb3 => ?_
 refine cndI (fun hb4 => ?_) fun hb4 => ?_
 refine cndI (fun hb5 => ?_) fun hb5 => ?_
 rintro ⟨⟩
 exact rS (runS 300 (o1 ++ [pb hb2, pb hb3, pn hb4, pb hb5])) (by kernel_rfl)
 rintro ⟨⟩
 exact rS (runS 300 (o1 ++ [pb hb2, pb hb3, pn hb4, pb hb5])) (by kernel_rfl)
 rintro ⟨⟩
 exact rS (runS 300 (o1 ++ [pb hb2, pb hb3, pn hb4])) (by kernel_rfl)
 rintro ⟨⟩
 exact rS (runS 300 (o1 ++ [pb hb2, pb hb3])) (by kernel_rfl)
 rintro ⟨⟩
 exact rS (runS 300 (o1 ++ [pb hb2])) (by kernel_rfl)
 subst hv
 rintro ⟨⟩
 exact rS (runS 300 [pb hb1, pcall (ref10_Unit_step e.unit false hy1)]) (by kernel_rfl)
 let o2 : List (PC P G) := [pb hb1]
 refine cndI (fun hb6 => ?_) fun hb6 => ?_
 refine cndI (fun hb7 => ?_) fun hb7 => ?_
 refine cndI (fun hb8 => ?_) fun hb8 => ?_
 refine bndI fun x2 hx2 => ?_
 refine cndI (fun hb9 => ?_) fun hb9 => ?_
 rintro ⟨⟩
 exact rS (runS 300 (o2 ++ [pb hb6, pb hb7, pb hb8, pix (ixz28 .lost hx2), pb hb9])) (by kernel_rfl)
 rintro ⟨⟩
 exact rS (runS 300 (o2 ++ [pb hb6, pb hb7, pb hb8, pix (ixz28 .lost hx2), pb hb9])) (by kernel_rfl)
 rintro ⟨⟩
 exact rS (runS 300 (o2 ++ [pb hb6, pb hb7, pb hb8])) (by kernel_rfl)
 rintro ⟨⟩
 exact rS (runS 300 (o2 ++ [pb hb6, pb hb7])) (by kernel_rfl)
 refine cndI (fun hb10 => ?_) fun hb10 => ?_
 refine bndI fun y3 hy3 => ?_
 let o3 : List (PC P G) := o2 ++ [pb hb6, pb hb10, pcall (ref10_numbered_step c e.n y3 hy3)]
 refine cndI (fun hb11 => ?_) fun hb11 => ?_
 refine bndI fun x4 hx4 => ?_
 let o4 : List (PC P G) := o3 ++ [pb hb11, pix (ixz29 .lost hx4)]
 refine cndI (fun hb12 => ?_) fun hb12 => ?_
 refine cndI (fun hb13 => ?_) fun hb13 => ?_
 refine bndI fun x5 hx5 => ?_
 let o5 : List (PC P G) := o4 ++ [pb hb12, pix (ixz29 .lost hx4), pb hb13, pix (ixz29 .lost hx4), pix (ixz28 .lost hx5)]
 refine cndI (fun hb14 => ?_) fun hb14 => ?_
 rintro ⟨⟩
 exact rS (runS 300 (o5 ++ [pb hb14])) (by kernel_rfl)
 rintro ⟨⟩
 exact rS (runS 300 (o5 ++ [pb hb14])) (by kernel_rfl)
 rintro ⟨⟩
 exact rS (runS 300 (o4 ++ [pb hb12, pix (ixz29 .lost hx4), pb hb13])) (by kernel_rfl)
 rintro ⟨⟩
 exact rS (runS 300 (o4 ++ [pb hb12])) (by kernel_rfl)
 rintro ⟨⟩
 exact rS (runS 300 (o3 ++ [pb hb11])) (by kernel_rfl)
 refine cndI (fun hb15 => ?_) fun hb15 => ?_
 refine cndI (fun hb16 => ?_) fun hb16 => ?_
 refine cndI (fun hb17 => ?_) fun hb17 => ?_
 refine cndI (fun hb18 => ?_) fun hb18 => ?_
 rintro ⟨⟩
 exact rS (runS 300 (o2 ++ [pb hb6, pb hb10, pb hb15, pb hb16, pb hb17, pb hb18])) (by kernel_rfl)
 rintro ⟨⟩
 exact rS (runS 300 (o2 ++ [pb hb6, pb hb10, pb hb15, pb hb16, pb hb17, pb hb18])) (by kernel_rfl)
 rintro ⟨⟩
 exact rS (runS 300 (o2 ++ [pb hb6, pb hb10, pb hb15, pb hb16, pb hb17])) (by kernel_rfl)
 rintro ⟨⟩
 exact rS (runS 300 (o2 ++ [pb hb6, pb hb10, pb hb15, pb hb16])) (by kernel_rfl)
 rintro ⟨⟩
 exact rS (runS 300 (o2 ++ [pb hb6, pb hb10, pb hb15])) (by kernel_rfl)
noncomputable def B172 : Code := bodyOf Tryz.f172
theorem b172 : Tryz.f172.body = some B172 := by kernel_rfl
noncomputable def ref05_within_B  (n : Int) (limit : Int) : Option Bool := cond (leI (wneg limit) n) (cond (leI n limit) (some true) (some false)) (some false)
theorem ref05_within_step   (n : Int) (limit : Int) (yR : Bool) (h : ref05_within_B  n limit = some yR) : Pure P G 172 [.sc (.int .i64 n), .sc (.int .i64 limit)] (.sc (.bool yR)) := by
 unfold ref05_within_B at h
 refine pureM Hd.mixed Hd.plainG (WC_body Tryz.func172 b172 ?_) (plC rfl (plC rfl rfl)) rfl
 revert h
 refine cndI (fun hb1 => ?_) fun hb1 => ?_
 refine cndI (fun hb2 => ?_) fun hb2 => ?_
 rintro ⟨⟩
 exact rS (runS 300 [pb hb1, pb hb2]) (by kernel_rfl)
 rintro ⟨⟩
 exact rS (runS 300 [pb hb1, pb hb2]) (by kernel_rfl)
 rintro ⟨⟩
 exact rS (runS 300 [pb hb1]) (by kernel_rfl)
noncomputable def B145 : Code := bodyOf Tryz.f145
theorem b145 : Tryz.f145.body = some B145 := by kernel_rfl
noncomputable def ref05_Valid_L1  (f : Fn) (i0 : Nat) (e0 : Pc)  : Option (Lp Unit Unit Bool) := (ref05_within_B e0.slope 1000000).bind fun y1 => (ref05_within_B e0.att 1000000000000000000).bind fun y2 => cond y1 (cond y2 (cond (ltI 1000000000000 e0.fr) (some (.rt false)) (cond (eqI ((i0 : Nat) : Int) 0) (cond (eqI e0.fr 0) (some (.nx ())) (some (.rt false))) (cond (ltI 0 ((i0 : Nat) : Int)) ((geti f.ps (wsub ((i0 : Nat) : Int) 1)).bind fun x3 => cond (leI e0.fr x3.fr) (some (.rt false)) (some (.nx ()))) (some (.nx ()))))) (some (.rt false))) (some (.rt false))
noncomputable def ref05_Valid_B  (f : Fn) : Option Bool := cond (ltI f.den 1) (some false) (cond (ltI 1000000 f.den) (some false) (cond (ltI ((f.ps.length : Nat) : Int) 1) (some false) (cond (ltI 64 ((f.ps.length : Nat) : Int)) (some false) ((lim f.ps.length (foldL (fun i y x => ref05_Valid_L1  f i y ) (fun x => ()) (f.ps.drop 0) 0 ())).bind (lpK (fun (_ : Unit) => some true) (fun v => some v))))))
theorem ref05_Valid_step   (f : Fn) (yR : Bool) (h : ref05_Valid_B  f = some yR) : Pure P G 145 [.agg (fnC f)] (.sc (.bool yR)) := by
 unfold ref05_Valid_B at h
 refine pureM Hd.mixed Hd.plainG (WC_body Tryz.func145 b145 ?_) (plC (layFn.plG f) rfl) rfl
 revert h
 refine cndI (fun hb1 => ?_) fun hb1 => ?_
 rintro ⟨⟩
 exact rS (runS 300 [pb hb1]) (by kernel_rfl)
 refine cndI (fun hb2 => ?_) fun hb2 => ?_
 rintro ⟨⟩
 exact rS (runS 300 [pb hb1, pb hb2]) (by kernel_rfl)
 refine cndI (fun hb3 => ?_) fun hb3 => ?_
 rintro ⟨⟩
 exact rS (runS 300 [pb hb1, pb hb2, pb hb3]) (by kernel_rfl)
 refine cndI (fun hb4 => ?_) fun hb4 => ?_
 rintro ⟨⟩
 exact rS (runS 300 [pb hb1, pb hb2, pb hb3, pb hb4]) (by kernel_rfl)
 refine bndI fun res hres h => ?_
 have hlen := (limE hres).1
 replace hres := (limE hres).2
 refine go_at [] [0, 1, 2, 3, 5, 6, 9, 10, 13, 14, 15, 19, 20, 21, 25, 26, 31, 38, 41, 44, 45, 46, 47, 48, 49, 50, 51, 54, 55, 56, 58, 59, 62, 63, 64, 65, 67, 68, 78, 79, 80] 0 (sub B145 [1, 1, 0, 1, 0, 0]) [.code (sub B145 [1, 1, 1])] _ _ (runS 300 [pb hb1, pb hb2, pb hb3, pb hb4]) (by kernel_rfl) (foldP (fn := Tryz.f145) (m := 0) (fun v => .sc (.bool v)) 0 f.ps (fun i0 (_ : Unit) (j0 : JJ) => frm 81 0 [(1, .ptr 0 0), (3, .sc (.int .i64 ((i0 : Nat) : Int)))] [2, 5, 6, 9, 10, 13, 14, 15, 19, 20, 21, 25, 26, 31, 41, 44, 45, 46, 47, 48, 49, 50, 51, 54, 55, 56, 58, 59, 62, 63, 64, 65, 67, 68, 78, 79, 80] 0 [0, 38] 0 j0) (fun (_ : Nat) (_ : Unit) (_ : JJ) => ⟨[(0, .cells (fnC f))], 1, [], 0⟩) (fun (j : JJ) => plainL j.2 = true) (fun (_ : Unit) (jx : JJ) => frm 81 0 [] [2, 5, 6, 9, 10, 13, 14, 15, 19, 20, 21, 25, 26, 31, 41, 44, 45, 46, 47, 48, 49, 50, 51, 54, 55, 56, 58, 59, 62, 63, 64, 65, 67, 68, 78, 79, 80] 0 [0, 38] 0 jx) (fun (_ : Unit) (_ : JJ) => ⟨[(0, .cells (fnC f))], 1, [], 0⟩) (fun (j : JJ) => plainL j.2 = true) ?_ ?_ 0 hres ?_ ?_ ([.bool false, undef, undef, .bool false, .bool false, .bool false, .bool false, .bool false, .bool false, .bool false, .bool false, .bool false, .bool false], [.agg (fnC f), .sc undef]) (plC (layFn.plG f) (plC rfl rfl)))
 rintro i0 ⟨⟩ j0 hj0 hge hq
 clear h hres
 refine WL_rnd ?_
 exact go_ex Hd.plainG [1, 4, 10, 12, 18, 20, 26, 28, 30, 38, 40, 42, 50, 52, 62, 77, 82, 88, 90, 92, 94, 96, 98, 100, 102, 108, 110, 112, 116, 118, 124, 126, 128, 130, 134, 136, 156, 158, 160] [fq (gn_pl hj0 0), fq (gn_pl hj0 1)] [fbp (fnC f) (layFn.pl f)] 0 _ _ (runS 300 [pb (B := ltI ((i0 : Nat) : Int) ((f.ps.length : Nat) : Int)) (b := false) (ltF hge)]) (by kernel_rfl) (hq ([(jn j0 0), (jn j0 1), (jn j0 2), (jn j0 3), (jn j0 4), (jn j0 5), (jn j0 6), (jn j0 7), (jn j0 8), (jn j0 9), (jn j0 10), (jn j0 11), (jn j0 12), .bool false, (jn j0 14), (jn j0 15), (jn j0 16), (jn j0 17), (jn j0 18), (jn j0 19), (jn j0 20), (jn j0 21), (jn j0 22), (jn j0 23), (jn j0 24), (jn j0 25), (jn j0 26), (jn j0 27), (jn j0 28), (jn j0 29), (jn j0 30), (jn j0 31), (jn j0 32), (jn j0 33), (jn j0 34), (jn j0 35), (jn j0 36)], [(gn j0 0), (gn j0 1)]) (plC (gn_pl hj0 0) (plC (gn_pl hj0 1) rfl)))
 clear h hres
 rintro i0 e0 ⟨⟩ j0 r hj0 he0 hi0 h k
 refine WL_rnd ?_
 revert h
 show ref05_Valid_L1  f i0 e0  = some r → _
 unfold ref05_Valid_L1
 refine bndI fun y1 hy1 => ?_
 refine bndI fun y2 hy2 => ?_
 let o1 : List (PC P G) := [pb (B := ltI ((i0 : Nat) : Int) ((f.ps.length : Nat) : Int)) (b := true) (ltT hi0), pix (ix22 .lost he0)]
 refine cndI (fun hv => ?_) fun hv => ?_
 subst hv
 let o2 : List (PC P G) := o1 ++ [pcall (ref05_within_step e0.slope 1000000 true hy1)]
 refine cndI (fun hv => ?_) fun hv => ?_
 subst hv
 let o3 : List (PC P G) := o2 ++ [pcall (ref05_within_step e0.att 1000000000000000000 true hy2)]
 refine cndI (fun hb5 => ?_) fun hb5 => ?_
 rintro ⟨⟩
 exact go_retA _ _ (runS 300 (o3 ++ [pb hb5])) (by kernel_rfl) (.rnd k) .sc
 refine cndI (fun hb6 => ?_) fun hb6 => ?_
 refine cndI (fun hb7 => ?_) fun hb7 => ?_
 rintro ⟨⟩
 exact go_nx Hd.plainG [1, 2, 4, 6, 10, 12, 18, 20, 26, 28, 30, 38, 40, 42, 50, 52, 62, 77, 82, 88, 90, 92, 94, 96, 98, 100, 102, 108, 110, 112, 116, 118, 124, 126, 128, 130, 134, 136, 156, 158, 160] [fq (gn_pl hj0 0), fq (layPc.plG e0)] [fbp (fnC f) (layFn.pl f)] _ _ (runS 300 (o3 ++ [pb hb5, pb hb6, pn hb7, pb (B := ltI 0 ((i0 : Nat) : Int)) (b := false) (ltI_f (by have := eqI_T hb6; omega)), pinc i0 (by omega)])) (by kernel_rfl) (k ([(jn j0 0), .bool true, .bool true, (jn j0 3), (jn j0 4), (jn j0 5), (jn j0 6), (jn j0 7), (jn j0 8), (jn j0 9), (jn j0 10), (jn j0 11), (jn j0 12), .bool true, .bool true, .bool true, .bool true, .bool false, .bool false, .bool true, .bool false, .bool false, .bool false, .bool false, .bool false, .bool false, .bool true, .bool true, .bool false, .bool false, .bool false, .bool false, .bool false, .bool false, undef, .bool false, .bool false], [(gn j0 0), .agg (pcC e0)]) (plC (gn_pl hj0 0) (plC (layPc.plG e0) rfl)))
 rintro ⟨⟩
 exact go_retA _ _ (runS 300 (o3 ++ [pb hb5, pb hb6, pn hb7])) (by kernel_rfl) (.rnd k) .sc
 refine cndI (fun hb8 => ?_) fun hb8 => ?_
 refine bndI fun x3 hx3 => ?_
 refine cndI (fun hb9 => ?_) fun hb9 => ?_
 rintro ⟨⟩
 exact go_retA _ _ (runS 300 (o3 ++ [pb hb5, pb hb6, pb hb8, pk, pix (ixz22 .lost hx3), pb hb9])) (by kernel_rfl) (.rnd k) .sc
 rintro ⟨⟩
 exact go_nx Hd.plainG [1, 2, 4, 6, 10, 12, 18, 20, 26, 28, 30, 38, 40, 42, 50, 52, 62, 77, 82, 88, 90, 92, 94, 96, 98, 100, 102, 108, 110, 112, 116, 118, 124, 126, 128, 130, 134, 136, 156, 158, 160] [fq (gn_pl hj0 0), fq (layPc.plG e0)] [fbp (fnC f) (layFn.pl f)] _ _ (runS 300 (o3 ++ [pb hb5, pb hb6, pb hb8, pk, pix (ixz22 .lost hx3), pb hb9, pinc i0 (by omega)])) (by kernel_rfl) (k ([(jn j0 0), .bool true, .bool true, (jn j0 3), (jn j0 4), (jn j0 5), (jn j0 6), (jn j0 7), (jn j0 8), (jn j0 9), (jn j0 10), (jn j0 11), (jn j0 12), .bool true, .bool true, .bool true, .bool true, .bool false, .bool false, .bool true, .bool false, .bool false, .bool false, .bool false, .bool false, .bool false, .bool false, .bool false, undef, .bool false, .bool false, .bool false, .bool true, .bool true, .bool false, .bool false, .bool false], [(gn j0 0), .agg (pcC e0)]) (plC (gn_pl hj0 0) (plC (layPc.plG e0) rfl)))
 rintro ⟨⟩
 exact go_nx Hd.plainG [1, 2, 4, 6, 10, 12, 18, 20, 26, 28, 30, 38, 40, 42, 50, 52, 62, 77, 82, 88, 90, 92, 94, 96, 98, 100, 102, 108, 110, 112, 116, 118, 124, 126, 128, 130, 134, 136, 156, 158, 160] [fq (gn_pl hj0 0), fq (layPc.plG e0)] [fbp (fnC f) (layFn.pl f)] _ _ (runS 300 (o3 ++ [pb hb5, pb hb6, pb hb8, pinc i0 (by omega)])) (by kernel_rfl) (k ([(jn j0 0), .bool true, .bool true, (jn j0 3), (jn j0 4), (jn j0 5), (jn j0 6), (jn j0 7), (jn j0 8), (jn j0 9), (jn j0 10), (jn j0 11), (jn j0 12), .bool true, .bool true, .bool true, .bool true, .bool false, .bool false, .bool true, .bool false, .bool false, .bool false, .bool false, .bool false, .bool false, .bool false, .bool false, undef, .bool false, .bool false, .bool false, .bool false, .bool false, undef, .bool false, .bool false], [(gn j0 0), .agg (pcC e0)]) (plC (gn_pl hj0 0) (plC (layPc.plG e0) rfl)))
 subst hv
 rintro ⟨⟩
 exact go_retA _ _ (runS 300 (o2 ++ [pcall (ref05_within_step e0.att 1000000000000000000 false hy2)])) (by kernel_rfl) (.rnd k) .sc
 subst hv
 rintro ⟨⟩
 exact go_retA _ _ (runS 300 (o1 ++ [pcall (ref05_within_step e0.slope 1000000 false hy1), pcall (ref05_within_step e0.att 1000000000000000000 y2 hy2)])) (by kernel_rfl) (.rnd k) .sc
 rintro ⟨⟩ rfl jx_4 hjx_4
 revert h
 clear hres
 dsimp only [lpK]
 intro h
 have hE := Option.some.inj h
 subst hE
 exact go_retA _ _ (runX 300 []) (by kernel_rfl) .body .sc
 rintro v rfl
 dsimp only [lpK] at h
 cases h
 exact .outer .body
noncomputable def B146 : Code := bodyOf Tryz.f146
theorem b146 : Tryz.f146.body = some B146 := by kernel_rfl
noncomputable def ref10_many_L1  (e : Ex) (x1 : Ex) (i0 : Nat) (e0 : Ex)  : Option (Lp Unit Unit Bool) := cond (eqI e.op 16) (cond (eqB e0.unit.data.toList x1.unit.data.toList) (some (.nx ())) (some (.rt false))) (cond (eqI e.op 17) (cond (eqB e0.unit.data.toList x1.unit.data.toList) (some (.nx ())) (some (.rt false))) (some (.nx ())))
noncomputable def ref10_many_B  (e : Ex) : Option Bool := (e.kids[0]?).bind fun x1 => (e.kids[1]?).bind fun x2 => (lim e.kids.length (foldL (fun i y x => ref10_many_L1  e x1 i y ) (fun x => ()) (e.kids.drop 0) 0 ())).bind (lpK (fun (_ : Unit) => cond (eqI e.op 16) (cond (eqB x1.unit.data.toList truthS.data.toList) (some false) (cond (eqB e.unit.data.toList x1.unit.data.toList) (some true) (some false))) (cond (eqI e.op 17) (cond (eqB x1.unit.data.toList truthS.data.toList) (some false) (cond (eqB e.unit.data.toList x1.unit.data.toList) (some true) (some false))) (cond (eqI ((e.kids.length : Nat) : Int) 2) (cond (eqI e.op 6) (cond (eqB e.unit.data.toList truthS.data.toList) (cond (eqB x1.unit.data.toList truthS.data.toList) (cond (eqB x2.unit.data.toList truthS.data.toList) (some true) (some false)) (some false)) (some false)) (cond (eqI e.op 7) (cond (eqB e.unit.data.toList truthS.data.toList) (cond (eqB x1.unit.data.toList truthS.data.toList) (cond (eqB x2.unit.data.toList truthS.data.toList) (some true) (some false)) (some false)) (some false)) (cond (eqI e.op 8) (cond (eqB e.unit.data.toList truthS.data.toList) (cond (eqB x1.unit.data.toList x2.unit.data.toList) (some true) (some false)) (some false)) (cond (eqI e.op 9) (cond (eqB e.unit.data.toList truthS.data.toList) (cond (eqB x1.unit.data.toList x2.unit.data.toList) (cond (eqB x1.unit.data.toList truthS.data.toList) (some false) (some true)) (some false)) (some false)) (cond (eqI e.op 10) (cond (eqB e.unit.data.toList truthS.data.toList) (cond (eqB x1.unit.data.toList x2.unit.data.toList) (cond (eqB x1.unit.data.toList truthS.data.toList) (some false) (some true)) (some false)) (some false)) (cond (eqI e.op 11) (cond (eqB e.unit.data.toList x1.unit.data.toList) (cond (eqB x1.unit.data.toList x2.unit.data.toList) (cond (eqB x1.unit.data.toList truthS.data.toList) (some false) (some true)) (some false)) (some false)) (cond (eqI e.op 12) (cond (eqB e.unit.data.toList x1.unit.data.toList) (cond (eqB x1.unit.data.toList x2.unit.data.toList) (cond (eqB x1.unit.data.toList truthS.data.toList) (some false) (some true)) (some false)) (some false)) (cond (eqI e.op 13) (cond (eqB x1.unit.data.toList truthS.data.toList) (some false) (cond (eqB x2.unit.data.toList truthS.data.toList) (some false) (cond (eqB x1.unit.data.toList numberS.data.toList) (cond (eqB e.unit.data.toList x2.unit.data.toList) (some true) (cond (eqB x2.unit.data.toList numberS.data.toList) (cond (eqB e.unit.data.toList x1.unit.data.toList) (some true) (some false)) (some false))) (cond (eqB x2.unit.data.toList numberS.data.toList) (cond (eqB e.unit.data.toList x1.unit.data.toList) (some true) (some false)) (some false))))) (cond (eqI e.op 14) (cond (eqB e.unit.data.toList x1.unit.data.toList) (cond (eqB x1.unit.data.toList truthS.data.toList) (some false) (cond (eqI x2.op 1) (cond (eqB x2.unit.data.toList numberS.data.toList) (cond (leI 1 x2.n) (cond (leI x2.n 1000000) (some true) (some false)) (some false)) (some false)) (some false))) (some false)) (cond (eqI e.op 15) (cond (eqB x1.unit.data.toList minutesS.data.toList) ((ref07_Cur_B x2.unit).bind fun y4 => cond y4 (cond (eqB e.unit.data.toList x2.unit.data.toList) (some true) (some false)) (some false)) (some false)) (some false))))))))))) (some false)))) (fun v => some v))
theorem ref10_many_step   (e : Ex) (yR : Bool) (h : ref10_many_B  e = some yR) : Pure P G 146 [.agg (exC e)] (.sc (.bool yR)) := by
 unfold ref10_many_B at h
 refine pureM Hd.mixed Hd.plainG (WC_body Tryz.func146 b146 ?_) (plC (layEx.plG e) rfl) rfl
 revert h
 refine bndI fun x1 hx1 => ?_
 refine bndI fun x2 hx2 => ?_
 refine bndI fun res hres h => ?_
 have hlen := (limE hres).1
 replace hres := (limE hres).2
 refine go_at [] [0, 1, 2, 3, 4, 5, 20, 25, 26, 29, 30, 31, 39, 40, 43, 44, 47, 48, 50, 51, 55, 56, 60, 63, 64, 65, 68, 69, 71, 72, 73, 75, 76, 77, 78, 81, 82, 85, 86, 87, 88, 89, 92, 93, 96, 97, 98, 100, 101, 102, 103, 104, 108, 109, 112, 113, 114, 116, 117, 118, 119, 121, 122, 124, 125, 126, 128, 129, 133, 134, 135, 137, 138, 142, 143, 144, 145, 146, 147, 151, 152, 154, 155, 156, 162, 163, 164, 166, 167, 168, 174, 175, 176, 182, 183, 184, 185, 187, 188, 190, 191, 192, 196, 197] 0 (sub B146 [1, 1, 1, 0, 1, 0, 0]) [.code (sub B146 [1, 1, 1, 1])] _ _ (runS 300 [pix (ix58 .lost hx1), pix (ix58 .lost hx2)]) (by kernel_rfl) (foldP (fn := Tryz.f146) (m := 0) (fun v => .sc (.bool v)) 0 e.kids (fun i0 (_ : Unit) (j0 : JJ) => frm 198 0 [(1, .ptr 0 0), (3, .sc (.string x1.unit)), (4, .sc (.string x2.unit)), (5, .sc (.int .i64 ((i0 : Nat) : Int)))] [2, 20, 25, 26, 29, 30, 31, 39, 40, 43, 44, 47, 48, 50, 51, 55, 56, 60, 63, 64, 65, 68, 69, 71, 72, 73, 75, 76, 77, 78, 81, 82, 85, 86, 87, 88, 89, 92, 93, 96, 97, 98, 100, 101, 102, 103, 104, 108, 109, 112, 113, 114, 116, 117, 118, 119, 121, 122, 124, 125, 126, 128, 129, 133, 134, 135, 137, 138, 142, 143, 144, 145, 146, 147, 151, 152, 154, 155, 156, 162, 163, 164, 166, 167, 168, 174, 175, 176, 182, 183, 184, 185, 187, 188, 190, 191, 192, 196, 197] 0 [0] 0 j0) (fun (_ : Nat) (_ : Unit) (_ : JJ) => ⟨[(0, .cells (exC e))], 1, [], 0⟩) (fun (j : JJ) => plainL j.2 = true) (fun (_ : Unit) (jx : JJ) => frm 198 0 [(1, .ptr 0 0), (3, .sc (.string x1.unit)), (4, .sc (.string x2.unit))] [2, 20, 25, 26, 29, 30, 31, 39, 40, 43, 44, 47, 48, 50, 51, 55, 56, 60, 63, 64, 65, 68, 69, 71, 72, 73, 75, 76, 77, 78, 81, 82, 85, 86, 87, 88, 89, 92, 93, 96, 97, 98, 100, 101, 102, 103, 104, 108, 109, 112, 113, 114, 116, 117, 118, 119, 121, 122, 124, 125, 126, 128, 129, 133, 134, 135, 137, 138, 142, 143, 144, 145, 146, 147, 151, 152, 154, 155, 156, 162, 163, 164, 166, 167, 168, 174, 175, 176, 182, 183, 184, 185, 187, 188, 190, 191, 192, 196, 197] 0 [0] 0 jx) (fun (_ : Unit) (_ : JJ) => ⟨[(0, .cells (exC e))], 1, [], 0⟩) (fun (j : JJ) => plainL j.2 = true) ?_ ?_ 0 hres ?_ ?_ ([.bool false], [.agg (exC e)]) (plC (layEx.plG e) rfl))
 rintro i0 ⟨⟩ j0 hj0 hge hq
 clear h hres
 refine WL_rnd ?_
 exact go_ex Hd.plainG [1, 2, 4, 6, 8, 40, 50, 52, 58, 60, 62, 78, 80, 86, 88, 94, 96, 100, 102, 110, 112, 120, 126, 128, 130, 136, 138, 142, 144, 146, 150, 152, 154, 156, 162, 164, 170, 172, 174, 176, 178, 184, 186, 192, 194, 196, 200, 202, 204, 206, 208, 216, 218, 224, 226, 228, 232, 234, 236, 238, 242, 244, 248, 250, 252, 256, 258, 266, 268, 270, 274, 276, 284, 286, 288, 290, 292, 294, 302, 304, 308, 310, 312, 324, 326, 328, 332, 334, 336, 348, 350, 352, 364, 366, 368, 370, 374, 376, 380, 382, 384, 392, 394] [fq (gn_pl hj0 0)] [fbp (exC e) (layEx.pl e)] 0 _ _ (runS 300 [pb (B := ltI ((i0 : Nat) : Int) ((e.kids.length : Nat) : Int)) (b := false) (ltF hge)]) (by kernel_rfl) (hq ([(jn j0 0), .bool false, (jn j0 2), (jn j0 3), (jn j0 4), (jn j0 5), (jn j0 6), (jn j0 7), (jn j0 8), (jn j0 9), (jn j0 10), (jn j0 11), (jn j0 12), (jn j0 13), (jn j0 14), (jn j0 15), (jn j0 16), (jn j0 17), (jn j0 18), (jn j0 19), (jn j0 20), (jn j0 21), (jn j0 22), (jn j0 23), (jn j0 24), (jn j0 25), (jn j0 26), (jn j0 27), (jn j0 28), (jn j0 29), (jn j0 30), (jn j0 31), (jn j0 32), (jn j0 33), (jn j0 34), (jn j0 35), (jn j0 36), (jn j0 37), (jn j0 38), (jn j0 39), (jn j0 40), (jn j0 41), (jn j0 42), (jn j0 43), (jn j0 44), (jn j0 45), (jn j0 46), (jn j0 47), (jn j0 48), (jn j0 49), (jn j0 50), (jn j0 51), (jn j0 52), (jn j0 53), (jn j0 54), (jn j0 55), (jn j0 56), (jn j0 57), (jn j0 58), (jn j0 59), (jn j0 60), (jn j0 61), (jn j0 62), (jn j0 63), (jn j0 64), (jn j0 65), (jn j0 66), (jn j0 67), (jn j0 68), (jn j0 69), (jn j0 70), (jn j0 71), (jn j0 72), (jn j0 73), (jn j0 74), (jn j0 75), (jn j0 76), (jn j0 77), (jn j0 78), (jn j0 79), (jn j0 80), (jn j0 81), (jn j0 82), (jn j0 83), (jn j0 84), (jn j0 85), (jn j0 86), (jn j0 87), (jn j0 88), (jn j0 89), (jn j0 90), (jn j0 91), (jn j0 92), (jn j0 93), (jn j0 94), (jn j0 95), (jn j0 96), (jn j0 97), (jn j0 98)], [(gn j0 0)]) (plC (gn_pl hj0 0) rfl))
 clear h hres
 rintro i0 e0 ⟨⟩ j0 r hj0 he0 hi0 h k
 refine WL_rnd ?_
 revert h
 show ref10_many_L1  e x1 i0 e0  = some r → _
 unfold ref10_many_L1
 let o1 : List (PC P G) := [pb (B := ltI ((i0 : Nat) : Int) ((e.kids.length : Nat) : Int)) (b := true) (ltT hi0)]
 refine cndI (fun hb1 => ?_) fun hb1 => ?_
 refine cndI (fun hb2 => ?_) fun hb2 => ?_
 rintro ⟨⟩
 exact go_nx Hd.plainG [1, 2, 4, 6, 8, 10, 40, 50, 52, 58, 60, 62, 78, 80, 86, 88, 94, 96, 100, 102, 110, 112, 120, 126, 128, 130, 136, 138, 142, 144, 146, 150, 152, 154, 156, 162, 164, 170, 172, 174, 176, 178, 184, 186, 192, 194, 196, 200, 202, 204, 206, 208, 216, 218, 224, 226, 228, 232, 234, 236, 238, 242, 244, 248, 250, 252, 256, 258, 266, 268, 270, 274, 276, 284, 286, 288, 290, 292, 294, 302, 304, 308, 310, 312, 324, 326, 328, 332, 334, 336, 348, 350, 352, 364, 366, 368, 370, 374, 376, 380, 382, 384, 392, 394] [fq (gn_pl hj0 0)] [fbp (exC e) (layEx.pl e)] _ _ (runS 300 (o1 ++ [pb hb1, pix (ix58 .lost he0), pn hb2, pinc i0 (by omega)])) (by kernel_rfl) (k ([(jn j0 0), .bool true, .bool true, .bool true, undef, .bool true, .bool true, .bool false, .bool false, (jn j0 9), (jn j0 10), (jn j0 11), (jn j0 12), (jn j0 13), (jn j0 14), (jn j0 15), (jn j0 16), (jn j0 17), (jn j0 18), (jn j0 19), (jn j0 20), (jn j0 21), (jn j0 22), (jn j0 23), (jn j0 24), (jn j0 25), (jn j0 26), (jn j0 27), (jn j0 28), (jn j0 29), (jn j0 30), (jn j0 31), (jn j0 32), (jn j0 33), (jn j0 34), (jn j0 35), (jn j0 36), (jn j0 37), (jn j0 38), (jn j0 39), (jn j0 40), (jn j0 41), (jn j0 42), (jn j0 43), (jn j0 44), (jn j0 45), (jn j0 46), (jn j0 47), (jn j0 48), (jn j0 49), (jn j0 50), (jn j0 51), (jn j0 52), (jn j0 53), (jn j0 54), (jn j0 55), (jn j0 56), (jn j0 57), (jn j0 58), (jn j0 59), (jn j0 60), (jn j0 61), (jn j0 62), (jn j0 63), (jn j0 64), (jn j0 65), (jn j0 66), (jn j0 67), (jn j0 68), (jn j0 69), (jn j0 70), (jn j0 71), (jn j0 72), (jn j0 73), (jn j0 74), (jn j0 75), (jn j0 76), (jn j0 77), (jn j0 78), (jn j0 79), (jn j0 80), (jn j0 81), (jn j0 82), (jn j0 83), (jn j0 84), (jn j0 85), (jn j0 86), (jn j0 87), (jn j0 88), (jn j0 89), (jn j0 90), (jn j0 91), (jn j0 92), (jn j0 93), (jn j0 94), (jn j0 95), (jn j0 96), (jn j0 97), (jn j0 98)], [(gn j0 0)]) (plC (gn_pl hj0 0) rfl))
 rintro ⟨⟩
 exact go_retA _ _ (runS 300 (o1 ++ [pb hb1, pix (ix58 .lost he0), pn hb2])) (by kernel_rfl) (.rnd k) .sc
 refine cndI (fun hb3 => ?_) fun hb3 => ?_
 refine cndI (fun hb4 => ?_) fun hb4 => ?_
 rintro ⟨⟩
 exact go_nx Hd.plainG [1, 2, 4, 6, 8, 10, 40, 50, 52, 58, 60, 62, 78, 80, 86, 88, 94, 96, 100, 102, 110, 112, 120, 126, 128, 130, 136, 138, 142, 144, 146, 150, 152, 154, 156, 162, 164, 170, 172, 174, 176, 178, 184, 186, 192, 194, 196, 200, 202, 204, 206, 208, 216, 218, 224, 226, 228, 232, 234, 236, 238, 242, 244, 248, 250, 252, 256, 258, 266, 268, 270, 274, 276, 284, 286, 288, 290, 292, 294, 302, 304, 308, 310, 312, 324, 326, 328, 332, 334, 336, 348, 350, 352, 364, 366, 368, 370, 374, 376, 380, 382, 384, 392, 394] [fq (gn_pl hj0 0)] [fbp (exC e) (layEx.pl e)] _ _ (runS 300 (o1 ++ [pb hb1, pb hb3, pix (ix58 .lost he0), pn hb4, pinc i0 (by omega)])) (by kernel_rfl) (k ([(jn j0 0), .bool true, .bool false, .bool false, .bool true, .bool true, .bool true, .bool false, .bool false, (jn j0 9), (jn j0 10), (jn j0 11), (jn j0 12), (jn j0 13), (jn j0 14), (jn j0 15), (jn j0 16), (jn j0 17), (jn j0 18), (jn j0 19), (jn j0 20), (jn j0 21), (jn j0 22), (jn j0 23), (jn j0 24), (jn j0 25), (jn j0 26), (jn j0 27), (jn j0 28), (jn j0 29), (jn j0 30), (jn j0 31), (jn j0 32), (jn j0 33), (jn j0 34), (jn j0 35), (jn j0 36), (jn j0 37), (jn j0 38), (jn j0 39), (jn j0 40), (jn j0 41), (jn j0 42), (jn j0 43), (jn j0 44), (jn j0 45), (jn j0 46), (jn j0 47), (jn j0 48), (jn j0 49), (jn j0 50), (jn j0 51), (jn j0 52), (jn j0 53), (jn j0 54), (jn j0 55), (jn j0 56), (jn j0 57), (jn j0 58), (jn j0 59), (jn j0 60), (jn j0 61), (jn j0 62), (jn j0 63), (jn j0 64), (jn j0 65), (jn j0 66), (jn j0 67), (jn j0 68), (jn j0 69), (jn j0 70), (jn j0 71), (jn j0 72), (jn j0 73), (jn j0 74), (jn j0 75), (jn j0 76), (jn j0 77), (jn j0 78), (jn j0 79), (jn j0 80), (jn j0 81), (jn j0 82), (jn j0 83), (jn j0 84), (jn j0 85), (jn j0 86), (jn j0 87), (jn j0 88), (jn j0 89), (jn j0 90), (jn j0 91), (jn j0 92), (jn j0 93), (jn j0 94), (jn j0 95), (jn j0 96), (jn j0 97), (jn j0 98)], [(gn j0 0)]) (plC (gn_pl hj0 0) rfl))
 rintro ⟨⟩
 exact go_retA _ _ (runS 300 (o1 ++ [pb hb1, pb hb3, pix (ix58 .lost he0), pn hb4])) (by kernel_rfl) (.rnd k) .sc
 rintro ⟨⟩
 exact go_nx Hd.plainG [1, 2, 4, 6, 8, 10, 40, 50, 52, 58, 60, 62, 78, 80, 86, 88, 94, 96, 100, 102, 110, 112, 120, 126, 128, 130, 136, 138, 142, 144, 146, 150, 152, 154, 156, 162, 164, 170, 172, 174, 176, 178, 184, 186, 192, 194, 196, 200, 202, 204, 206, 208, 216, 218, 224, 226, 228, 232, 234, 236, 238, 242, 244, 248, 250, 252, 256, 258, 266, 268, 270, 274, 276, 284, 286, 288, 290, 292, 294, 302, 304, 308, 310, 312, 324, 326, 328, 332, 334, 336, 348, 350, 352, 364, 366, 368, 370, 374, 376, 380, 382, 384, 392, 394] [fq (gn_pl hj0 0)] [fbp (exC e) (layEx.pl e)] _ _ (runS 300 (o1 ++ [pb hb1, pb hb3, pinc i0 (by omega)])) (by kernel_rfl) (k ([(jn j0 0), .bool true, .bool false, .bool false, .bool false, .bool false, .bool false, undef, .bool false, (jn j0 9), (jn j0 10), (jn j0 11), (jn j0 12), (jn j0 13), (jn j0 14), (jn j0 15), (jn j0 16), (jn j0 17), (jn j0 18), (jn j0 19), (jn j0 20), (jn j0 21), (jn j0 22), (jn j0 23), (jn j0 24), (jn j0 25), (jn j0 26), (jn j0 27), (jn j0 28), (jn j0 29), (jn j0 30), (jn j0 31), (jn j0 32), (jn j0 33), (jn j0 34), (jn j0 35), (jn j0 36), (jn j0 37), (jn j0 38), (jn j0 39), (jn j0 40), (jn j0 41), (jn j0 42), (jn j0 43), (jn j0 44), (jn j0 45), (jn j0 46), (jn j0 47), (jn j0 48), (jn j0 49), (jn j0 50), (jn j0 51), (jn j0 52), (jn j0 53), (jn j0 54), (jn j0 55), (jn j0 56), (jn j0 57), (jn j0 58), (jn j0 59), (jn j0 60), (jn j0 61), (jn j0 62), (jn j0 63), (jn j0 64), (jn j0 65), (jn j0 66), (jn j0 67), (jn j0 68), (jn j0 69), (jn j0 70), (jn j0 71), (jn j0 72), (jn j0 73), (jn j0 74), (jn j0 75), (jn j0 76), (jn j0 77), (jn j0 78), (jn j0 79), (jn j0 80), (jn j0 81), (jn j0 82), (jn j0 83), (jn j0 84), (jn j0 85), (jn j0 86), (jn j0 87), (jn j0 88), (jn j0 89), (jn j0 90), (jn j0 91), (jn j0 92), (jn j0 93), (jn j0 94), (jn j0 95), (jn j0 96), (jn j0 97), (jn j0 98)], [(gn j0 0)]) (plC (gn_pl hj0 0) rfl))
 rintro ⟨⟩ rfl jx_3 hjx_3
 revert h
 clear hres
 dsimp only [lpK]
 refine cndI (fun hb5 => ?_) fun hb5 => ?_
 refine cndI (fun hb6 => ?_) fun hb6 => ?_
 intro h
 have hE := Option.some.inj h
 subst hE
 exact go_retA _ _ (runX 300 [pb hb5, pn hb6]) (by kernel_rfl) .body .sc
 refine cndI (fun hb7 => ?_) fun hb7 => ?_
 intro h
 have hE := Option.some.inj h
 subst hE
 exact go_retA _ _ (runX 300 [pb hb5, pn hb6, pb hb7]) (by kernel_rfl) .body .sc
 intro h
 have hE := Option.some.inj h
 subst hE
 exact go_retA _ _ (runX 300 [pb hb5, pn hb6, pb hb7]) (by kernel_rfl) .body .sc
 let o2 : List (PC P G) := [pb hb5]
 refine cndI (fun hb8 => ?_) fun hb8 => ?_
 refine cndI (fun hb9 => ?_) fun hb9 => ?_
 intro h
 have hE := Option.some.inj h
 subst hE
 exact go_retA _ _ (runX 300 (o2 ++ [pb hb8, pn hb9])) (by kernel_rfl) .body .sc
 refine cndI (fun hb10 => ?_) fun hb10 => ?_
 intro h
 have hE := Option.some.inj h
 subst hE
 exact go_retA _ _ (runX 300 (o2 ++ [pb hb8, pn hb9, pb hb10])) (by kernel_rfl) .body .sc
 intro h
 have hE := Option.some.inj h
 subst hE
 exact go_retA _ _ (runX 300 (o2 ++ [pb hb8, pn hb9, pb hb10])) (by kernel_rfl) .body .sc
 let o3 : List (PC P G) := o2 ++ [pb hb8]
 refine cndI (fun hb11 => ?_) fun hb11 => ?_
 let o4 : List (PC P G) := o3 ++ [pn hb11]
 refine cndI (fun hb12 => ?_) fun hb12 => ?_
 refine cndI (fun hb13 => ?_) fun hb13 => ?_
 refine cndI (fun hb14 => ?_) fun hb14 => ?_
 refine cndI (fun hb15 => ?_) fun hb15 => ?_
 intro h
 have hE := Option.some.inj h
 subst hE
 exact go_retA _ _ (runX 300 (o4 ++ [pb hb12, pb hb13, pb hb14, pb hb15])) (by kernel_rfl) .body .sc
 intro h
 have hE := Option.some.inj h
 subst hE
 exact go_retA _ _ (runX 300 (o4 ++ [pb hb12, pb hb13, pb hb14, pb hb15])) (by kernel_rfl) .body .sc
 intro h
 have hE := Option.some.inj h
 subst hE
 exact go_retA _ _ (runX 300 (o4 ++ [pb hb12, pb hb13, pb hb14])) (by kernel_rfl) .body .sc
 intro h
 have hE := Option.some.inj h
 subst hE
 exact go_retA _ _ (runX 300 (o4 ++ [pb hb12, pb hb13])) (by kernel_rfl) .body .sc
 let o5 : List (PC P G) := o4 ++ [pb hb12]
 refine cndI (fun hb16 => ?_) fun hb16 => ?_
 refine cndI (fun hb17 => ?_) fun hb17 => ?_
 refine cndI (fun hb18 => ?_) fun hb18 => ?_
 refine cndI (fun hb19 => ?_) fun hb19 => ?_
 intro h
 have hE := Option.some.inj h
 subst hE
 exact go_retA _ _ (runX 300 (o5 ++ [pb hb16, pb hb17, pb hb18, pb hb19])) (by kernel_rfl) .body .sc
 intro h
 have hE := Option.some.inj h
 subst hE
 exact go_retA _ _ (runX 300 (o5 ++ [pb hb16, pb hb17, pb hb18, pb hb19])) (by kernel_rfl) .body .sc
 intro h
 have hE := Option.some.inj h
 subst hE
 exact go_retA _ _ (runX 300 (o5 ++ [pb hb16, pb hb17, pb hb18])) (by kernel_rfl) .body .sc
 intro h
 have hE := Option.some.inj h
 subst hE
 exact go_retA _ _ (runX 300 (o5 ++ [pb hb16, pb hb17])) (by kernel_rfl) .body .sc
 let o6 : List (PC P G) := o5 ++ [pb hb16]
 refine cndI (fun hb20 => ?_) fun hb20 => ?_
 refine cndI (fun hb21 => ?_) fun hb21 => ?_
 refine cndI (fun hb22 => ?_) fun hb22 => ?_
 intro h
 have hE := Option.some.inj h
 subst hE
 exact go_retA _ _ (runX 300 (o6 ++ [pb hb20, pb hb21, pb hb22])) (by kernel_rfl) .body .sc
 intro h
 have hE := Option.some.inj h
 subst hE
 exact go_retA _ _ (runX 300 (o6 ++ [pb hb20, pb hb21, pb hb22])) (by kernel_rfl) .body .sc
 intro h
 have hE := Option.some.inj h
 subst hE
 exact go_retA _ _ (runX 300 (o6 ++ [pb hb20, pb hb21])) (by kernel_rfl) .body .sc
 let o7 : List (PC P G) := o6 ++ [pb hb20]
 refine cndI (fun hb23 => ?_) fun hb23 => ?_
 refine cndI (fun hb24 => ?_) fun hb24 => ?_
 refine cndI (fun hb25 => ?_) fun hb25 => ?_
 refine cndI (fun hb26 => ?_) fun hb26 => ?_
 intro h
 have hE := Option.some.inj h
 subst hE
 exact go_retA _ _ (runX 300 (o7 ++ [pb hb23, pb hb24, pb hb25, pn hb26])) (by kernel_rfl) .body .sc
 intro h
 have hE := Option.some.inj h
 subst hE
 exact go_retA _ _ (runX 300 (o7 ++ [pb hb23, pb hb24, pb hb25, pn hb26])) (by kernel_rfl) .body .sc
 intro h
 have hE := Option.some.inj h
 subst hE
 exact go_retA _ _ (runX 300 (o7 ++ [pb hb23, pb hb24, pb hb25])) (by kernel_rfl) .body .sc
 intro h
 have hE := Option.some.inj h
 subst hE
 exact go_retA _ _ (runX 300 (o7 ++ [pb hb23, pb hb24])) (by kernel_rfl) .body .sc
 let o8 : List (PC P G) := o7 ++ [pb hb23]
 refine cndI (fun hb27 => ?_) fun hb27 => ?_
 refine cndI (fun hb28 => ?_) fun hb28 => ?_
 refine cndI (fun hb29 => ?_) fun hb29 => ?_
 refine cndI (fun hb30 => ?_) fun hb30 => ?_
 intro h
 have hE := Option.some.inj h
 subst hE
 exact go_retA _ _ (runX 300 (o8 ++ [pb hb27, pb hb28, pb hb29, pn hb30])) (by kernel_rfl) .body .sc
 intro h
 have hE := Option.some.inj h
 subst hE
 exact go_retA _ _ (runX 300 (o8 ++ [pb hb27, pb hb28, pb hb29, pn hb30])) (by kernel_rfl) .body .sc
 intro h
 have hE := Option.some.inj h
 subst hE
 exact go_retA _ _ (runX 300 (o8 ++ [pb hb27, pb hb28, pb hb29])) (by kernel_rfl) .body .sc
 intro h
 have hE := Option.some.inj h
 subst hE
 exact go_retA _ _ (runX 300 (o8 ++ [pb hb27, pb hb28])) (by kernel_rfl) .body .sc
 let o9 : List (PC P G) := o8 ++ [pb hb27]
 refine cndI (fun hb31 => ?_) fun hb31 => ?_
 refine cndI (fun hb32 => ?_) fun hb32 => ?_
 refine cndI (fun hb33 => ?_) fun hb33 => ?_
 refine cndI (fun hb34 => ?_) fun hb34 => ?_
 intro h
 have hE := Option.some.inj h
 subst hE
 exact go_retA _ _ (runX 300 (o9 ++ [pb hb31, pb hb32, pb hb33, pn hb34])) (by kernel_rfl) .body .sc
 intro h
 have hE := Option.some.inj h
 subst hE
 exact go_retA _ _ (runX 300 (o9 ++ [pb hb31, pb hb32, pb hb33, pn hb34])) (by kernel_rfl) .body .sc
 intro h
 have hE := Option.some.inj h
 subst hE
 exact go_retA _ _ (runX 300 (o9 ++ [pb hb31, pb hb32, pb hb33])) (by kernel_rfl) .body .sc
 intro h
 have hE := Option.some.inj h
 subst hE
 exact go_retA _ _ (runX 300 (o9 ++ [pb hb31, pb hb32])) (by kernel_rfl) .body .sc
 let o10 : List (PC P G) := o9 ++ [pb hb31]
 refine cndI (fun hb35 => ?_) fun hb35 => ?_
 refine cndI (fun hb36 => ?_) fun hb36 => ?_
 refine cndI (fun hb37 => ?_) fun hb37 => ?_
 refine cndI (fun hb38 => ?_) fun hb38 => ?_
 intro h
 have hE := Option.some.inj h
 subst hE
 exact go_retA _ _ (runX 300 (o10 ++ [pb hb35, pb hb36, pb hb37, pn hb38])) (by kernel_rfl) .body .sc
 intro h
 have hE := Option.some.inj h
 subst hE
 exact go_retA _ _ (runX 300 (o10 ++ [pb hb35, pb hb36, pb hb37, pn hb38])) (by kernel_rfl) .body .sc
 intro h
 have hE := Option.some.inj h
 subst hE
 exact go_retA _ _ (runX 300 (o10 ++ [pb hb35, pb hb36, pb hb37])) (by kernel_rfl) .body .sc
 intro h
 have hE := Option.some.inj h
 subst hE
 exact go_retA _ _ (runX 300 (o10 ++ [pb hb35, pb hb36])) (by kernel_rfl) .body .sc
 let o11 : List (PC P G) := o10 ++ [pb hb35]
 refine cndI (fun hb39 => ?_) fun hb39 => ?_
 refine cndI (fun hb40 => ?_) fun hb40 => ?_
 intro h
 have hE := Option.some.inj h
 subst hE
 exact go_retA _ _ (runX 300 (o11 ++ [pb hb39, pn hb40])) (by kernel_rfl) .body .sc
 let o12 : List (PC P G) := o11 ++ [pb hb39, pn hb40]
 refine cndI (fun hb41 => ?_) fun hb41 => ?_
 intro h
 have hE := Option.some.inj h
 subst hE
 exact go_retA _ _ (runX 300 (o12 ++ [pn hb41])) (by kernel_rfl) .body .sc
 refine cndI (fun hb42 => ?_) fun hb42 => ?_
 refine cndI (fun hb43 => ?_) fun hb43 => ?_
 intro h
 have hE := Option.some.inj h
 subst hE
 exact go_retA _ _ (runX 300 (o12 ++ [pn hb41, pb hb42, pb hb43])) (by kernel_rfl) .body .sc
 refine cndI (fun hb44 => ?_) fun hb44 => ?_
 refine cndI (fun hb45 => ?_) fun hb45 => ?_
 intro h
 have hE := Option.some.inj h
 subst hE
 exact go_retA _ _ (runX 300 (o12 ++ [pn hb41, pb hb42, pb hb43, pb hb44, pb hb45])) (by kernel_rfl) .body .sc
 intro h
 have hE := Option.some.inj h
 subst hE
 exact go_retA _ _ (runX 300 (o12 ++ [pn hb41, pb hb42, pb hb43, pb hb44, pb hb45])) (by kernel_rfl) .body .sc
 intro h
 have hE := Option.some.inj h
 subst hE
 exact go_retA _ _ (runX 300 (o12 ++ [pn hb41, pb hb42, pb hb43, pb hb44])) (by kernel_rfl) .body .sc
 refine cndI (fun hb46 => ?_) fun hb46 => ?_
 refine cndI (fun hb47 => ?_) fun hb47 => ?_
 intro h
 have hE := Option.some.inj h
 subst hE
 exact go_retA _ _ (runX 300 (o12 ++ [pn hb41, pb hb42, pb hb46, pb hb47])) (by kernel_rfl) .body .sc
 intro h
 have hE := Option.some.inj h
 subst hE
 exact go_retA _ _ (runX 300 (o12 ++ [pn hb41, pb hb42, pb hb46, pb hb47])) (by kernel_rfl) .body .sc
 intro h
 have hE := Option.some.inj h
 subst hE
 exact go_retA _ _ (runX 300 (o12 ++ [pn hb41, pb hb42, pb hb46])) (by kernel_rfl) .body .sc
 let o13 : List (PC P G) := o11 ++ [pb hb39]
 refine cndI (fun hb48 => ?_) fun hb48 => ?_
 refine cndI (fun hb49 => ?_) fun hb49 => ?_
 let o14 : List (PC P G) := o13 ++ [pb hb48, pb hb49]
 refine cndI (fun hb50 => ?_) fun hb50 => ?_
 intro h
 have hE := Option.some.inj h
 subst hE
 exact go_retA _ _ (runX 300 (o14 ++ [pn hb50])) (by kernel_rfl) .body .sc
 let o15 : List (PC P G) := o14 ++ [pn hb50, pix (ix58 .lost hx2)]
 refine cndI (fun hb51 => ?_) fun hb51 => ?_
 refine cndI (fun hb52 => ?_) fun hb52 => ?_
 let o16 : List (PC P G) := o15 ++ [pb hb51, pb hb52, pix (ix58 .lost hx2)]
 refine cndI (fun hb53 => ?_) fun hb53 => ?_
 refine cndI (fun hb54 => ?_) fun hb54 => ?_
 intro h
 have hE := Option.some.inj h
 subst hE
 exact go_retA _ _ (runX 300 (o16 ++ [pb hb53, pix (ix58 .lost hx2), pb hb54])) (by kernel_rfl) .body .sc
 intro h
 have hE := Option.some.inj h
 subst hE
 exact go_retA _ _ (runX 300 (o16 ++ [pb hb53, pix (ix58 .lost hx2), pb hb54])) (by kernel_rfl) .body .sc
 intro h
 have hE := Option.some.inj h
 subst hE
 exact go_retA _ _ (runX 300 (o16 ++ [pb hb53])) (by kernel_rfl) .body .sc
 intro h
 have hE := Option.some.inj h
 subst hE
 exact go_retA _ _ (runX 300 (o15 ++ [pb hb51, pb hb52])) (by kernel_rfl) .body .sc
 intro h
 have hE := Option.some.inj h
 subst hE
 exact go_retA _ _ (runX 300 (o15 ++ [pb hb51])) (by kernel_rfl) .body .sc
 intro h
 have hE := Option.some.inj h
 subst hE
 exact go_retA _ _ (runX 300 (o13 ++ [pb hb48, pb hb49])) (by kernel_rfl) .body .sc
 refine cndI (fun hb55 => ?_) fun hb55 => ?_
 refine cndI (fun hb56 => ?_) fun hb56 => ?_
 refine bndI fun y4 hy4 => ?_
 refine cndI (fun hv => ?_) fun hv => ?_
 subst hv
 refine cndI (fun hb57 => ?_) fun hb57 => ?_
 intro h
 have hE := Option.some.inj h
 subst hE
 exact go_retA _ _ (runX 300 (o13 ++ [pb hb48, pb hb55, pb hb56, pcall (ref07_Cur_step x2.unit true hy4), pb hb57])) (by kernel_rfl) .body .sc
 intro h
 have hE := Option.some.inj h
 subst hE
 exact go_retA _ _ (runX 300 (o13 ++ [pb hb48, pb hb55, pb hb56, pcall (ref07_Cur_step x2.unit true hy4), pb hb57])) (by kernel_rfl) .body .sc
 subst hv
 intro h
 have hE := Option.some.inj h
 subst hE
 exact go_retA _ _ (runX 300 (o13 ++ [pb hb48, pb hb55, pb hb56, pcall (ref07_Cur_step x2.unit false hy4)])) (by kernel_rfl) .body .sc
 intro h
 have hE := Option.some.inj h
 subst hE
 exact go_retA _ _ (runX 300 (o13 ++ [pb hb48, pb hb55, pb hb56])) (by kernel_rfl) .body .sc
 intro h
 have hE := Option.some.inj h
 subst hE
 exact go_retA _ _ (runX 300 (o13 ++ [pb hb48, pb hb55])) (by kernel_rfl) .body .sc
 intro h
 have hE := Option.some.inj h
 subst hE
 exact go_retA _ _ (runX 300 (o3 ++ [pn hb11])) (by kernel_rfl) .body .sc
 rintro v rfl
 dsimp only [lpK] at h
 cases h
 exact .outer .body
end Mo
end Go.Proofs.YtnijkdknnmgoeaaGreat
