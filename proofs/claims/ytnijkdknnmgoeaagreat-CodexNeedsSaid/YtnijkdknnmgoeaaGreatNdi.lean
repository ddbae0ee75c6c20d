/- Part of a proof: see the last text. -/
import Derived.Test.YtnijkdknnmgoeaaGreatNdh
import Derived.Test.YtnijkdknnmgoeaaGreatProg
import Derived.KernelRfl
namespace Go.Proofs.YtnijkdknnmgoeaaGreat
open AI Go
namespace Hd
def G : Glob := fun _ => none
theorem mixed : Tryz.prog.follows .mixedOrders = true := by kernel_rfl
theorem plainG (g : Nat) (cs : List AV) (h : G g = some cs) : plainL cs = true := by cases h
end Hd
end Go.Proofs.YtnijkdknnmgoeaaGreat
namespace Go.Proofs.YtnijkdknnmgoeaaGreat
open AI Go
namespace Mo
noncomputable abbrev P : Program := Tryz.prog
abbrev G : Glob := Hd.G
noncomputable abbrev X : Exts := XS P G
theorem ltT {i n : Nat} (h : i < n) : ltI ((i : Nat) : Int) ((n : Nat) : Int) = true := by rw [ltI_eq]; simp; exact h
theorem ltF {i n : Nat} (h : n ≤ i) : ltI ((i : Nat) : Int) ((n : Nat) : Int) = false := by rw [ltI_eq]; simp; omega
theorem eqI_T {a b : Int} (h : eqI a b = true) : a = b := by rw [eqI_eq] at h; simpa using h
theorem ltI_T {a b : Int} (h : ltI a b = true) : a < b := by rw [ltI_eq] at h; exact of_decide_eq_true h
theorem ltI_F {a b : Int} (h : ltI a b = false) : b ≤ a := by rw [ltI_eq] at h; have := of_decide_eq_false h; omega
theorem cndI {β : Type} {b : Bool} {t f : Option β} {r : β} {X : Prop} (h1 : b = true → t = some r → X) (h2 : b = false → f = some r → X) : cond b t f = some r → X := fun h => (cndE h).elim (fun x => h1 x.1 x.2) fun x => h2 x.1 x.2
theorem bndI {β κ : Type} {m : Option κ} {k : κ → Option β} {r : β} {X : Prop} (h1 : ∀ y, m = some y → k y = some r → X) : m.bind k = some r → X := fun h => (bndE h).elim fun y x => h1 y x.1 x.2
theorem limAI {β : Type} {n : Nat} {x : Option β} {r : β} {X : Prop} (h1 : n ≤ 100000000 → x = some r → X) : limA n x = some r → X := fun h => h1 (limAE h).1 (limAE h).2
theorem nonI {β : Type} {r : β} {X : Prop} : (none : Option β) = some r → X := fun h => nomatch h
theorem eqI_f {a b : Int} (h : a ≠ b) : eqI a b = false := by rw [eqI_eq]; simpa using h
theorem ltI_t {a b : Int} (h : a < b) : ltI a b = true := by rw [ltI_eq]; exact decide_eq_true h
theorem ltI_f {a b : Int} (h : b ≤ a) : ltI a b = false := by rw [ltI_eq]; exact decide_eq_false (by omega)
def fq {n m : Nat} {a : AV} (h : plain a = true) : FP n m := ⟨a, a, .plain h⟩
def fp {n m : Nat} (a : AV) (h : plain a = true) : FP n m := ⟨a, a, .plain h⟩
def fbp {n m : Nat} (a : List AV) (h : plainL a = true) : FB n m := ⟨.cells a, .cells a, .cells (.plain h)⟩
def fbu {n m : Nat} (a : List AV) (h : underL n m a = true) : FB n m := ⟨.cells a, .cells a, .cells (.under h)⟩
theorem plSl {n : Nat} {l : List AV} (h : plainL l = true) : plain (.sl .lost n l) = true := by simp only [plain, h]; rfl
theorem plSlF {n : Nat} {l : List AV} (h : plainL l = true) : plain (.sl .full n l) = true := by simp only [plain, h]; rfl
theorem plFn {f : Go.Fn} {a l : List AV} (h : plainL a = true) (k : plainL l = true) : plain (.fn f a l) = true := by simp only [plain, h, k]; rfl
theorem unSl {n m r sz k : Nat} {l : List AV} (h : decide (r < m) = true) (t : underL n m l = true) : under n m (.sl (.row r sz) k l) = true := by simp only [under, h, t]; rfl
theorem unFn {n m : Nat} {f : Go.Fn} {a l : List AV} (h : underL n m a = true) (k : underL n m l = true) : under n m (.fn f a l) = true := by simp only [under, h, k]; rfl
def inC (x : Int) : List AV := [.sc (.int .i64 x)]
def stC (x : ByteArray) : List AV := [.sc (.string x)]
theorem layInt : Lay inC (rows inC) 1 := ⟨fun _ => rfl, fun _ => rfl, fun _ => rfl⟩
theorem layStr : Lay stC (rows stC) 1 := ⟨fun _ => rfl, fun _ => rfl, fun _ => rfl⟩
structure Pc where
 fr : Int
 att : Int
 slope : Int
def pcC (x : Pc) : List AV := [.sc (.int .i64 x.fr), .sc (.int .i64 x.att), .sc (.int .i64 x.slope)]
theorem layPc : Lay pcC (rows pcC) 3 := ⟨fun _ => rfl, fun _ => rfl, fun x => (plC rfl (plC rfl (plC rfl rfl)))⟩
structure Fn where
 den : Int
 ps : (List Pc)
def fnC (x : Fn) : List AV := [.sc (.int .i64 x.den), .sl .lost x.ps.length (rows pcC x.ps)]
theorem layFn : Lay fnC (rows fnC) 2 := ⟨fun _ => rfl, fun _ => rfl, fun x => (plC rfl (plC (layPc.plS x.ps) rfl))⟩
structure Nd where
 kind : Int
 name : ByteArray
 unit : ByteArray
 n : Int
 fr : Int
 to : Int
 known : Int
 tab : Fn
 kids : (List Nd)
 att : Int
mutual
def ndK : Nd → List AV
 | ⟨kind, name, unit, n, fr, to, known, tab, kids, att⟩ => [.sc (.int .i64 kind), .sc (.string name), .sc (.string unit), .sc (.int .i64 n), .sc (.int .i64 fr), .sc (.int .i64 to), .sc (.int .i64 known), .sc (.int .i64 tab.den), .sl .lost tab.ps.length (rows pcC tab.ps), .sl .lost kids.length (ndsC kids), .sc (.int .i64 att)]
def ndsC : List Nd → List AV
 | [] => []
 | k :: ks => ndK k ++ ndsC ks
end
def ndC (x : Nd) : List AV := [.sc (.int .i64 x.kind), .sc (.string x.name), .sc (.string x.unit), .sc (.int .i64 x.n), .sc (.int .i64 x.fr), .sc (.int .i64 x.to), .sc (.int .i64 x.known), .sc (.int .i64 x.tab.den), .sl .lost x.tab.ps.length (rows pcC x.tab.ps), .sl .lost x.kids.length (ndsC x.kids), .sc (.int .i64 x.att)]
theorem ndK_eq (x : Nd) : ndK x = ndC x := by cases x; rfl
theorem ndsC_eq (l : List Nd) : ndsC l = rows ndC l := by
 induction l with
 | nil => rfl
 | cons k ks ih => rw [rows_cons, ndsC, ih, ndK_eq]
mutual
theorem ndK_pl : ∀ x : Nd, plainL (ndK x) = true
 | ⟨kind, name, unit, n, fr, to, known, tab, kids, att⟩ => by rw [ndK]; exact (plC rfl (plC rfl (plC rfl (plC rfl (plC rfl (plC rfl (plC rfl (plC rfl (plC (layPc.plS tab.ps) (plC (plSl (ndsC_pl kids)) (plC rfl rfl)))))))))))
theorem ndsC_pl : ∀ l : List Nd, plainL (ndsC l) = true
 | [] => rfl
 | k :: ks => by rw [ndsC]; exact plApp (ndK_pl k) (ndsC_pl ks)
end
theorem layNd : Lay ndC ndsC 11 := ⟨ndsC_eq, fun _ => rfl, fun x => by rw [← ndK_eq]; exact ndK_pl x⟩
structure Ex where
 op : Int
 n : Int
 unit : ByteArray
 tab : Fn
 kids : (List Ex)
mutual
def exK : Ex → List AV
 | ⟨op, n, unit, tab, kids⟩ => [.sc (.int .i64 op), .sc (.int .i64 n), .sc (.string unit), .sc (.int .i64 tab.den), .sl .lost tab.ps.length (rows pcC tab.ps), .sl .lost kids.length (exsC kids)]
def exsC : List Ex → List AV
 | [] => []
 | k :: ks => exK k ++ exsC ks
end
def exC (x : Ex) : List AV := [.sc (.int .i64 x.op), .sc (.int .i64 x.n), .sc (.string x.unit), .sc (.int .i64 x.tab.den), .sl .lost x.tab.ps.length (rows pcC x.tab.ps), .sl .lost x.kids.length (exsC x.kids)]
theorem exK_eq (x : Ex) : exK x = exC x := by cases x; rfl
theorem exsC_eq (l : List Ex) : exsC l = rows exC l := by
 induction l with
 | nil => rfl
 | cons k ks ih => rw [rows_cons, exsC, ih, exK_eq]
mutual
theorem exK_pl : ∀ x : Ex, plainL (exK x) = true
 | ⟨op, n, unit, tab, kids⟩ => by rw [exK]; exact (plC rfl (plC rfl (plC rfl (plC rfl (plC (layPc.plS tab.ps) (plC (plSl (exsC_pl kids)) rfl))))))
theorem exsC_pl : ∀ l : List Ex, plainL (exsC l) = true
 | [] => rfl
 | k :: ks => by rw [exsC]; exact plApp (exK_pl k) (exsC_pl ks)
end
theorem layEx : Lay exC exsC 6 := ⟨exsC_eq, fun _ => rfl, fun x => by rw [← exK_eq]; exact exK_pl x⟩
structure Ar where
 number : Int
 line : Int
 rank : Int
 fr : Int
 to : Int
 known : Int
 wh : (List Ex)
 un : (List Int)
 am : Ex
def arC (x : Ar) : List AV := [.sc (.int .i64 x.number), .sc (.int .i64 x.line), .sc (.int .i64 x.rank), .sc (.int .i64 x.fr), .sc (.int .i64 x.to), .sc (.int .i64 x.known), .sl .lost x.wh.length (exsC x.wh), .sl .lost x.un.length (rows inC x.un), .sc (.int .i64 x.am.op), .sc (.int .i64 x.am.n), .sc (.string x.am.unit), .sc (.int .i64 x.am.tab.den), .sl .lost x.am.tab.ps.length (rows pcC x.am.tab.ps), .sl .lost x.am.kids.length (exsC x.am.kids)]
theorem layAr : Lay arC (rows arC) 14 := ⟨fun _ => rfl, fun _ => rfl, fun x => (plC rfl (plC rfl (plC rfl (plC rfl (plC rfl (plC rfl (plC (layEx.plS x.wh) (plC (layInt.plS x.un) (plApp (layEx.pl x.am) rfl)))))))))⟩
structure Dc where
 name : ByteArray
 unit : ByteArray
 role : Int
def dcC (x : Dc) : List AV := [.sc (.string x.name), .sc (.string x.unit), .sc (.int .i64 x.role)]
theorem layDc : Lay dcC (rows dcC) 3 := ⟨fun _ => rfl, fun _ => rfl, fun x => (plC rfl (plC rfl (plC rfl rfl)))⟩
structure Co where
 facts : (List Dc)
 lines : (List Dc)
 arts : (List Ar)
def coC (x : Co) : List AV := [.sl .lost x.facts.length (rows dcC x.facts), .sl .lost x.lines.length (rows dcC x.lines), .sl .lost x.arts.length (rows arC x.arts)]
theorem layCo : Lay coC (rows coC) 3 := ⟨fun _ => rfl, fun _ => rfl, fun x => (plC (layDc.plS x.facts) (plC (layDc.plS x.lines) (plC (layAr.plS x.arts) rfl)))⟩
structure Tk where
 kind : Int
 text : ByteArray
 att : Int
structure Dg where
 err : Int
 att : Int
structure Ps where
 l : (List Tk)
 at_ : Int
 end_ : Int
 err : Int
 errAt : Int
structure Ck where
 nodes : Int
def ckC (x : Ck) : List AV := [.sc (.int .i64 x.nodes)]
theorem layCk : Lay ckC (rows ckC) 1 := ⟨fun _ => rfl, fun _ => rfl, fun x => (plC rfl rfl)⟩
structure Cq where
 src : Nd
 diags : (List Dg)
structure Ft where
 codex : Co
 lines : (Mm Int Int)
 nodes : Int
def ftT (r0 : Nat) (x : Ft) : List AV := [.sl .lost x.codex.facts.length (rows dcC x.codex.facts), .sl .lost x.codex.lines.length (rows dcC x.codex.lines), .sl .lost x.codex.arts.length (rows arC x.codex.arts), .mp r0, .sc (.int .i64 x.nodes)]
theorem ftT_rn {k j : Nat} {ρ σ : Nat → Nat} {r0 : Nat} (x : Ft) (h0 : r0 < k) : RnL k j ρ σ (ftT r0 x) (ftT (ρ r0) x) := (.cons (.pl (layDc.plS x.codex.facts)) (.cons (.pl (layDc.plS x.codex.lines)) (.cons (.pl (layAr.plS x.codex.arts)) (.cons (.mp h0) (.cons (.pl rfl) .nil)))))
theorem ftT_un {n m : Nat} {r0 : Nat} {x : Ft} (h0 : decide (r0 < n) = true) : underL n m (ftT r0 x) = true := (unC (under_plain _ _ (layDc.plS x.codex.facts)) (unC (under_plain _ _ (layDc.plS x.codex.lines)) (unC (under_plain _ _ (layAr.plS x.codex.arts)) (unC h0 (unC (under_plain _ _ rfl) rfl)))))
structure Sc where
 facts : (Mm ByteArray ByteArray)
 lines : (Mm ByteArray ByteArray)
 articles : (Mm Int ByteArray)
structure Tr where
 codex : Co
 facts : (Mm ByteArray Int)
 lines : (Mm ByteArray Int)
 articles : (Mm Int Int)
theorem u22 : P.underlying 22 = some (.slice 138) := by kernel_rfl
theorem s138 : (P.info? 138).map (·.size) = some 3 := by kernel_rfl
theorem ix22 (own : Own) {l : List Pc} {i : Nat} {x : Pc} (h : l[i]? = some x) : aindexAt P 22 (.sl own l.length (rows pcC l)) (.sc (.int .i64 ((i : Nat) : Int))) = some (.el (pcC x ++ rows pcC (l.drop (i + 1)))) := layPc.ix u22 s138 own h
theorem ixz22 (own : Own) {l : List Pc} {z : Int} {x : Pc} (h : geti l z = some x) : aindexAt P 22 (.sl own l.length (rows pcC l)) (.sc (.int .i64 z)) = some (.el (pcC x ++ rows pcC (l.drop (z.toNat + 1)))) := layPc.ixz u22 s138 own h
theorem u25 : P.underlying 25 = some (.slice 27) := by kernel_rfl
theorem s27 : (P.info? 27).map (·.size) = some 11 := by kernel_rfl
theorem ix25 (own : Own) {l : List Nd} {i : Nat} {x : Nd} (h : l[i]? = some x) : aindexAt P 25 (.sl own l.length (ndsC l)) (.sc (.int .i64 ((i : Nat) : Int))) = some (.el (ndC x ++ ndsC (l.drop (i + 1)))) := layNd.ix u25 s27 own h
theorem u28 : P.underlying 28 = some (.slice 57) := by kernel_rfl
theorem s57 : (P.info? 57).map (·.size) = some 3 := by kernel_rfl
theorem ix28 (own : Own) {l : List Dc} {i : Nat} {x : Dc} (h : l[i]? = some x) : aindexAt P 28 (.sl own l.length (rows dcC l)) (.sc (.int .i64 ((i : Nat) : Int))) = some (.el (dcC x ++ rows dcC (l.drop (i + 1)))) := layDc.ix u28 s57 own h
theorem ixz28 (own : Own) {l : List Dc} {z : Int} {x : Dc} (h : geti l z = some x) : aindexAt P 28 (.sl own l.length (rows dcC l)) (.sc (.int .i64 z)) = some (.el (dcC x ++ rows dcC (l.drop (z.toNat + 1)))) := layDc.ixz u28 s57 own h
theorem u29 : P.underlying 29 = some (.slice 62) := by kernel_rfl
theorem s62 : (P.info? 62).map (·.size) = some 14 := by kernel_rfl
theorem ix29 (own : Own) {l : List Ar} {i : Nat} {x : Ar} (h : l[i]? = some x) : aindexAt P 29 (.sl own l.length (rows arC l)) (.sc (.int .i64 ((i : Nat) : Int))) = some (.el (arC x ++ rows arC (l.drop (i + 1)))) := layAr.ix u29 s62 own h
theorem ixz29 (own : Own) {l : List Ar} {z : Int} {x : Ar} (h : geti l z = some x) : aindexAt P 29 (.sl own l.length (rows arC l)) (.sc (.int .i64 z)) = some (.el (arC x ++ rows arC (l.drop (z.toNat + 1)))) := layAr.ixz u29 s62 own h
theorem u40 : P.underlying 40 = some (.slice 3) := by kernel_rfl
theorem s3 : (P.info? 3).map (·.size) = some 1 := by kernel_rfl
theorem i3 : (P.info? 3).map (fun i => (i.size, i.bytes, i.zero.map (·.cells.size))) = some (1, 8, some 1) := by kernel_rfl
theorem ix40 (own : Own) {l : List Int} {i : Nat} {x : Int} (h : l[i]? = some x) : aindexAt P 40 (.sl own l.length (rows inC l)) (.sc (.int .i64 ((i : Nat) : Int))) = some (.el (inC x ++ rows inC (l.drop (i + 1)))) := layInt.ix u40 s3 own h
theorem gro40 (own : Own) (l m : List Int) {o : Own} {n : Nat} {ns : List AV} (hn : Wn ns (rows inC m)) (hnn : n = m.length) (ho : ns.all one = true) (hm : m.length ≠ 0) (hlen : l.length + m.length ≤ 100000000) : Cd.ok P G (.gro 40 40 own l.length (rows inC l) (.sl o n ns) 1 (l ++ m).length (rows inC (l ++ m))) := layInt.gro u40 u40 i3 (by decide) (by decide) own l m hn hnn ho hm hlen
theorem u58 : P.underlying 58 = some (.slice 60) := by kernel_rfl
theorem s60 : (P.info? 60).map (·.size) = some 6 := by kernel_rfl
theorem ix58 (own : Own) {l : List Ex} {i : Nat} {x : Ex} (h : l[i]? = some x) : aindexAt P 58 (.sl own l.length (exsC l)) (.sc (.int .i64 ((i : Nat) : Int))) = some (.el (exC x ++ exsC (l.drop (i + 1)))) := layEx.ix u58 s60 own h
theorem ixz58 (own : Own) {l : List Ex} {z : Int} {x : Ex} (h : geti l z = some x) : aindexAt P 58 (.sl own l.length (exsC l)) (.sc (.int .i64 z)) = some (.el (exC x ++ exsC (l.drop (z.toNat + 1)))) := layEx.ixz u58 s60 own h
theorem s4 : (P.info? 4).map (·.size) = some 1 := by kernel_rfl
theorem u141 : P.underlying 141 = some (.slice 9) := by kernel_rfl
theorem s9 : (P.info? 9).map (·.size) = some 1 := by kernel_rfl
theorem ix141 (own : Own) {l : List ByteArray} {i : Nat} {x : ByteArray} (h : l[i]? = some x) : aindexAt P 141 (.sl own l.length (rows stC l)) (.sc (.int .i64 ((i : Nat) : Int))) = some (.el (stC x ++ rows stC (l.drop (i + 1)))) := layStr.ix u141 s9 own h
def wneg (x : Int) : Int := IntKind.i64.wrap (0 - x)
def wrem (x y : Int) : Int := x.tmod y
def drem (x y : Int) : Option Int := if y = 0 then none else some (wrem x y)
def subl {α : Type} (s : List α) (l h : Int) : Option (List α) := if 0 ≤ l ∧ l ≤ h ∧ h ≤ ((s.length : Nat) : Int) then some ((s.drop l.toNat).take (h.toNat - l.toNat)) else none
theorem anat_i (z : Int) (h : 0 ≤ z) : anat (.sc (.int .i64 z)) = some z.toNat := by unfold anat; simp [h]
theorem rem_ok3 {a b c : Int} (h : drem a b = some c) (x y : Operand) : abin P .rem 3 x y (.sc (.int .i64 a)) (.sc (.int .i64 b)) = some (.sc (.int .i64 c)) := by
 unfold drem at h
 split at h
 · cases h
 · rename_i hb
   cases h
   simp [abin, toVal, eqGuard, binOp, Op.intDiv, hb, AI.pv, scal, scalar, wrem, Bind.bind, Sem.bind, Pure.pure]
theorem us9 : P.underlying 9 = some .string := by kernel_rfl
theorem ixb9 {s : ByteArray} {i : Nat} {c : UInt8} (h : s.data.toList[i]? = some c) : aindex P 9 (.sc (.string s)) (.sc (.int .i64 ((i : Nat) : Int))) = some (.sc (.int .u8 ((c.toNat : Nat) : Int))) := by
 unfold aindex
 rw [us9, anat_i _ (by omega)]
 simp only [Int.toNat_natCast, h]
theorem subl25_ (l h : Nat) {s : List Nd} (h1 : l ≤ h) (h2 : h ≤ s.length) (lo hi : Option AV) (e1 : abound 0 lo = some l) (e2 : abound s.length hi = some h) : aslice P 25 (.sl .lost s.length (ndsC s)) lo hi none = some (.sl .lost ((s.drop l).take (h - l)).length (ndsC ((s.drop l).take (h - l)))) := layNd.sub u25 s27 l h h1 h2 lo hi e1 e2
theorem sublL25 {s v : List Nd} {l : Int} (e : subl s l ((s.length : Nat) : Int) = some v) : aslice P 25 (.sl .lost s.length (ndsC s)) (some (.sc (.int .i64 l))) (none) none = some (.sl .lost v.length (ndsC v)) := by
 unfold subl at e
 split at e
 · rename_i hc
   cases e
   exact subl25_ _ _ (by omega) (by omega) _ _ (anat_i l hc.1) rfl
 · cases e
def samePc (x y : Pc) : Bool := x.fr == y.fr && (x.att == y.att && (x.slope == y.slope))
theorem samePc_all (x y : Pc) : all2 [.int .i64 x.fr, .int .i64 x.att, .int .i64 x.slope] [.int .i64 y.fr, .int .i64 y.att, .int .i64 y.slope] = some (samePc x y) := by
 simp only [all2, fEq, samePc, if_true, Option.bind_some]
 cases (x.fr == y.fr) <;> cases (x.att == y.att) <;> cases (x.slope == y.slope) <;> rfl
theorem flat138 : Flat P 138 [1, 1, 1] := ⟨by kernel_rfl, by kernel_rfl, by kernel_rfl, by kernel_rfl, by kernel_rfl, by kernel_rfl⟩
theorem neq138 {x y : Pc} {b : Bool} (h : samePc x y = b) (ox oy : Operand) : abin P .neq 138 ox oy (.agg (pcC x)) (.agg (pcC y)) = some (.sc (.bool (!b))) := by
 subst h
 exact (flat138.bin (us := [.int .i64 x.fr, .int .i64 x.att, .int .i64 x.slope]) (vs := [.int .i64 y.fr, .int .i64 y.att, .int .i64 y.slope]) ⟨.inl ⟨_, rfl, rfl⟩, ⟨.inl ⟨_, rfl, rfl⟩, ⟨.inl ⟨_, rfl, rfl⟩, trivial⟩⟩⟩ ⟨.inl ⟨_, rfl, rfl⟩, ⟨.inl ⟨_, rfl, rfl⟩, ⟨.inl ⟨_, rfl, rfl⟩, trivial⟩⟩⟩ (samePc_all x y) ox oy).2
def mbii (m : Mm Int Int) : ABlk := mB (fun n => .int .i64 n) (fun n => .sc (.int .i64 n)) m
theorem um83 : P.underlying 83 = some (.map 3 3) := by kernel_rfl
theorem uk83 : P.underlying 3 = some ((.int .i64)) := by kernel_rfl
theorem az83 : azero P 3 = some (.sc (.int .i64 0)) := by kernel_rfl
theorem lkT83 (m : Mm Int Int) (k : Int) {b : Bool} (h : (m.get k).isSome = b) : Cd.ok P G (.lkB (mbii m) 83 (.sc (.int .i64 k)) true (.tup [.sc (.int .i64 ((m.get k).getD 0)), .sc (.bool b)])) := mm_lkT (vv := (fun n => .sc (.int .i64 n))) um83 uk83 kInt (z := 0) az83 m k h
theorem ms83 (m : Mm Int Int) (k : Int) (v : Int) : Cd.ok P G (.msB (mbii m) 83 (.sc (.int .i64 k)) (.sc (.int .i64 v)) (mbii (m.set k v))) := mm_ms (vv := (fun n => .sc (.int .i64 n))) um83 uk83 kInt m k v
def mbib (m : Mm Int Bool) : ABlk := mB (fun n => .int .i64 n) (fun n => .sc (.bool n)) m
theorem um89 : P.underlying 89 = some (.map 3 4) := by kernel_rfl
theorem uk89 : P.underlying 3 = some ((.int .i64)) := by kernel_rfl
theorem az89 : azero P 4 = some (.sc (.bool false)) := by kernel_rfl
theorem lkB89 (m : Mm Int Bool) (k : Int) {b : Bool} (h : (m.get k).getD false = b) : Cd.ok P G (.lkB (mbib m) 89 (.sc (.int .i64 k)) false (.sc (.bool b))) := by
 subst h
 exact mm_lk (vv := (fun n => .sc (.bool n))) um89 uk89 kInt (z := false) az89 m k
theorem ms89 (m : Mm Int Bool) (k : Int) (v : Bool) : Cd.ok P G (.msB (mbib m) 89 (.sc (.int .i64 k)) (.sc (.bool v)) (mbib (m.set k v))) := mm_ms (vv := (fun n => .sc (.bool n))) um89 uk89 kInt m k v
def mbsb (m : Mm ByteArray Bool) : ABlk := mB (fun n => .string n) (fun n => .sc (.bool n)) m
theorem um131 : P.underlying 131 = some (.map 9 4) := by kernel_rfl
theorem uk131 : P.underlying 9 = some (.string) := by kernel_rfl
theorem az131 : azero P 4 = some (.sc (.bool false)) := by kernel_rfl
theorem lkB131 (m : Mm ByteArray Bool) (k : ByteArray) {b : Bool} (h : (m.get k).getD false = b) : Cd.ok P G (.lkB (mbsb m) 131 (.sc (.string k)) false (.sc (.bool b))) := by
 subst h
 exact mm_lk (vv := (fun n => .sc (.bool n))) um131 uk131 kStr (z := false) az131 m k
theorem ms131 (m : Mm ByteArray Bool) (k : ByteArray) (v : Bool) : Cd.ok P G (.msB (mbsb m) 131 (.sc (.string k)) (.sc (.bool v)) (mbsb (m.set k v))) := mm_ms (vv := (fun n => .sc (.bool n))) um131 uk131 kStr m k v
theorem zeql3 {a b : Int} {q : Bool} (h : some (eqI a b) = some q) (x y : Operand) : abin P .eql 3 x y (.sc (.int .i64 a)) (.sc (.int .i64 b)) = some (.sc (.bool q)) := by
 rw [← abinF_eq]
 cases h
 kernel_rfl
theorem zeql9 {a b : ByteArray} {q : Bool} (h : some (eqB a.data.toList b.data.toList) = some q) (x y : Operand) : abin P .eql 9 x y (.sc (.string a)) (.sc (.string b)) = some (.sc (.bool q)) := by
 rw [← abinF_eq]
 cases h
 kernel_rfl
theorem zgeq3 {a b : Int} {q : Bool} (h : some (leI b a) = some q) (x y : Operand) : abin P .geq 3 x y (.sc (.int .i64 a)) (.sc (.int .i64 b)) = some (.sc (.bool q)) := by
 rw [← abinF_eq]
 cases h
 kernel_rfl
theorem zgtr3 {a b : Int} {q : Bool} (h : some (ltI b a) = some q) (x y : Operand) : abin P .gtr 3 x y (.sc (.int .i64 a)) (.sc (.int .i64 b)) = some (.sc (.bool q)) := by
 rw [← abinF_eq]
 cases h
 kernel_rfl
theorem zleq3 {a b : Int} {q : Bool} (h : some (leI a b) = some q) (x y : Operand) : abin P .leq 3 x y (.sc (.int .i64 a)) (.sc (.int .i64 b)) = some (.sc (.bool q)) := by
 rw [← abinF_eq]
 cases h
 kernel_rfl
theorem zlss3 {a b : Int} {q : Bool} (h : some (ltI a b) = some q) (x y : Operand) : abin P .lss 3 x y (.sc (.int .i64 a)) (.sc (.int .i64 b)) = some (.sc (.bool q)) := by
 rw [← abinF_eq]
 cases h
 kernel_rfl
theorem zneq3 {a b : Int} {q : Bool} (h : some (!eqI a b) = some q) (x y : Operand) : abin P .neq 3 x y (.sc (.int .i64 a)) (.sc (.int .i64 b)) = some (.sc (.bool q)) := by
 rw [← abinF_eq]
 cases h
 kernel_rfl
theorem zneq9 {a b : ByteArray} {q : Bool} (h : some (!eqB a.data.toList b.data.toList) = some q) (x y : Operand) : abin P .neq 9 x y (.sc (.string a)) (.sc (.string b)) = some (.sc (.bool q)) := by
 rw [← abinF_eq]
 cases h
 kernel_rfl
def q213dS : ByteArray := ⟨#[33, 61]⟩
def q2aS : ByteArray := ⟨#[42]⟩
def q2bS : ByteArray := ⟨#[43]⟩
def q2dS : ByteArray := ⟨#[45]⟩
def q2fS : ByteArray := ⟨#[47]⟩
def q3cS : ByteArray := ⟨#[60]⟩
def q3c3dS : ByteArray := ⟨#[60, 61]⟩
def q3d3dS : ByteArray := ⟨#[61, 61]⟩
def amountS : ByteArray := ⟨#[97, 109, 111, 117, 110, 116]⟩
def andS : ByteArray := ⟨#[97, 110, 100]⟩
def artS : ByteArray := ⟨#[97, 114, 116]⟩
def articleS : ByteArray := ⟨#[97, 114, 116, 105, 99, 108, 101]⟩
def atS : ByteArray := ⟨#[97, 116]⟩
def dayS : ByteArray := ⟨#[100, 97, 121]⟩
def deductS : ByteArray := ⟨#[100, 101, 100, 117, 99, 116]⟩
def earnS : ByteArray := ⟨#[101, 97, 114, 110]⟩
def factS : ByteArray := ⟨#[102, 97, 99, 116]⟩
def falseS : ByteArray := ⟨#[102, 97, 108, 115, 101]⟩
def floorS : ByteArray := ⟨#[102, 108, 111, 111, 114]⟩
def forS : ByteArray := ⟨#[102, 111, 114]⟩
def fromS : ByteArray := ⟨#[102, 114, 111, 109]⟩
def greatestS : ByteArray := ⟨#[103, 114, 101, 97, 116, 101, 115, 116]⟩
def infoS : ByteArray := ⟨#[105, 110, 102, 111]⟩
def knownS : ByteArray := ⟨#[107, 110, 111, 119, 110]⟩
def leastS : ByteArray := ⟨#[108, 101, 97, 115, 116]⟩
def lineS : ByteArray := ⟨#[108, 105, 110, 101]⟩
def minS : ByteArray := ⟨#[109, 105, 110]⟩
def minutesS : ByteArray := ⟨#[109, 105, 110, 117, 116, 101, 115]⟩
def monthS : ByteArray := ⟨#[109, 111, 110, 116, 104]⟩
def notS : ByteArray := ⟨#[110, 111, 116]⟩
def numberS : ByteArray := ⟨#[110, 117, 109, 98, 101, 114]⟩
def orS : ByteArray := ⟨#[111, 114]⟩
def rankS : ByteArray := ⟨#[114, 97, 110, 107]⟩
def tableS : ByteArray := ⟨#[116, 97, 98, 108, 101]⟩
def toS : ByteArray := ⟨#[116, 111]⟩
def trueS : ByteArray := ⟨#[116, 114, 117, 101]⟩
def truthS : ByteArray := ⟨#[116, 114, 117, 116, 104]⟩
def unlessS : ByteArray := ⟨#[117, 110, 108, 101, 115, 115]⟩
def weekdayS : ByteArray := ⟨#[119, 101, 101, 107, 100, 97, 121]⟩
def whenS : ByteArray := ⟨#[119, 104, 101, 110]⟩
def yearS : ByteArray := ⟨#[121, 101, 97, 114]⟩
end Mo
end Go.Proofs.YtnijkdknnmgoeaaGreat
