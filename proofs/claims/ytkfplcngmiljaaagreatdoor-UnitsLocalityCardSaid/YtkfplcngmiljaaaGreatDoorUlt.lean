/- Part of a proof: see the last text. -/
import Derived.Test.YtkfplcngmiljaaaGreatDoorUls
import Derived.Shelf.Strconv.Atoi
import Derived.Shelf.Strings.Replace
import Derived.Test.YtkfplcngmiljaaaGreatDoorProg
set_option linter.unusedVariables false
set_option linter.unusedSimpArgs false
namespace Go.Proofs
open Go.Shelf
def Tryz.lays172_ren : Go.Shelf.Ren := ⟨fun | 172 => 137 | 244 => 144 | 245 => 145 | 247 => 155 | 279 => 156 | 280 => 157 | 281 => 158 | 282 => 159 | 287 => 169 | 316 => 170 | 171 => 172 | 205 => 171 | 321 => 183 | 322 => 184 | 243 => 185 | 246 => 190 | 283 => 191 | 284 => 192 | 285 => 193 | 286 => 194 | 129 => 196 | 317 => 195 | 318 => 197 | 319 => 198 | 320 => 199 | 337 => 200 | 338 => 201 | n => n, fun | 9 => 9 | 3 => 3 | 75 => 152 | 76 => 153 | 4 => 4 | 5 => 5 | 167 => 173 | 37 => 42 | 0 => 0 | 85 => 174 | 2 => 2 | 168 => 176 | 53 => 187 | 175 => 188 | 46 => 190 | 210 => 192 | 127 => 186 | 145 => 207 | 143 => 205 | 21 => 21 | 171 => 212 | 173 => 215 | 212 => 218 | 51 => 208 | 20 => 20 | 213 => 219 | 232 => 222 | 233 => 223 | 80 => 172 | n => n, fun | 15 => 4 | 16 => 5 | 17 => 10 | 18 => 11 | 19 => 12 | n => n⟩
theorem Tryz.lays172 : Go.Proofs.Lays.n172 Tryz.prog Tryz.lays172_ren := {
 mixed := by kernel_rfl
 f129 := Tryz.func196.trans (congrArg some (by kernel_rfl))
 f171 := Tryz.func172.trans (congrArg some (by kernel_rfl))
 f172 := Tryz.func137.trans (congrArg some (by kernel_rfl))
 f205 := Tryz.func171.trans (congrArg some (by kernel_rfl))
 f243 := Tryz.func185.trans (congrArg some (by kernel_rfl))
 f244 := Tryz.func144.trans (congrArg some (by kernel_rfl))
 f245 := Tryz.func145.trans (congrArg some (by kernel_rfl))
 f246 := Tryz.func190.trans (congrArg some (by kernel_rfl))
 f247 := Tryz.func155.trans (congrArg some (by kernel_rfl))
 f279 := Tryz.func156.trans (congrArg some (by kernel_rfl))
 f280 := Tryz.func157.trans (congrArg some (by kernel_rfl))
 f281 := Tryz.func158.trans (congrArg some (by kernel_rfl))
 f282 := Tryz.func159.trans (congrArg some (by kernel_rfl))
 f283 := Tryz.func191.trans (congrArg some (by kernel_rfl))
 f284 := Tryz.func192.trans (congrArg some (by kernel_rfl))
 f285 := Tryz.func193.trans (congrArg some (by kernel_rfl))
 f286 := Tryz.func194.trans (congrArg some (by kernel_rfl))
 f287 := Tryz.func169.trans (congrArg some (by kernel_rfl))
 f316 := Tryz.func170.trans (congrArg some (by kernel_rfl))
 f317 := Tryz.func195.trans (congrArg some (by kernel_rfl))
 f318 := Tryz.func197.trans (congrArg some (by kernel_rfl))
 f319 := Tryz.func198.trans (congrArg some (by kernel_rfl))
 f320 := Tryz.func199.trans (congrArg some (by kernel_rfl))
 f321 := Tryz.func183.trans (congrArg some (by kernel_rfl))
 f322 := Tryz.func184.trans (congrArg some (by kernel_rfl))
 f337 := Tryz.func200.trans (congrArg some (by kernel_rfl))
 f338 := Tryz.func201.trans (congrArg some (by kernel_rfl))
 t0 := Tryz.underlying0
 a0 := Tryz.isAgg0
 z0 := Tryz.sizeOf0
 v0 := Tryz.zeroValue0
 t2 := Tryz.underlying2
 a2 := Tryz.isAgg2
 z2 := Tryz.sizeOf2
 v2 := Tryz.zeroValue2
 t3 := Tryz.underlying3
 a3 := Tryz.isAgg3
 z3 := Tryz.sizeOf3
 v3 := Tryz.zeroValue3
 t4 := Tryz.underlying4
 a4 := Tryz.isAgg4
 z4 := Tryz.sizeOf4
 v4 := Tryz.zeroValue4
 t5 := Tryz.underlying5
 a5 := Tryz.isAgg5
 z5 := Tryz.sizeOf5
 v5 := Tryz.zeroValue5
 t9 := Tryz.underlying9
 a9 := Tryz.isAgg9
 z9 := Tryz.sizeOf9
 v9 := Tryz.zeroValue9
 t20 := Tryz.underlying20
 a20 := Tryz.isAgg20
 z20 := Tryz.sizeOf20
 v20 := Tryz.zeroValue20
 t21 := Tryz.underlying21
 a21 := Tryz.isAgg21
 z21 := Tryz.sizeOf21
 v21 := Tryz.zeroValue21
 t37 := Tryz.underlying42
 a37 := Tryz.isAgg42
 z37 := Tryz.sizeOf42
 v37 := Tryz.zeroValue42
 t46 := Tryz.underlying190
 a46 := Tryz.isAgg190
 z46 := Tryz.sizeOf190
 v46 := Tryz.zeroValue190
 t51 := Tryz.underlying208
 a51 := Tryz.isAgg208
 z51 := Tryz.sizeOf208
 v51 := Tryz.zeroValue208
 t53 := Tryz.underlying187
 a53 := Tryz.isAgg187
 z53 := Tryz.sizeOf187
 v53 := Tryz.zeroValue187
 t75 := Tryz.underlying152
 a75 := Tryz.isAgg152
 z75 := Tryz.sizeOf152
 v75 := Tryz.zeroValue152
 t76 := Tryz.underlying153
 a76 := Tryz.isAgg153
 z76 := Tryz.sizeOf153
 v76 := Tryz.zeroValue153
 t85 := Tryz.underlying174
 a85 := Tryz.isAgg174
 z85 := Tryz.sizeOf174
 v85 := Tryz.zeroValue174
 t127 := Tryz.underlying186
 a127 := Tryz.isAgg186
 z127 := Tryz.sizeOf186
 v127 := Tryz.zeroValue186
 t143 := Tryz.underlying205
 a143 := Tryz.isAgg205
 z143 := Tryz.sizeOf205
 v143 := Tryz.zeroValue205
 t145 := Tryz.underlying207
 a145 := Tryz.isAgg207
 z145 := Tryz.sizeOf207
 v145 := Tryz.zeroValue207
 t167 := Tryz.underlying173
 a167 := Tryz.isAgg173
 z167 := Tryz.sizeOf173
 v167 := Tryz.zeroValue173
 t168 := Tryz.underlying176
 a168 := Tryz.isAgg176
 z168 := Tryz.sizeOf176
 v168 := Tryz.zeroValue176
 t171 := Tryz.underlying212
 a171 := Tryz.isAgg212
 z171 := Tryz.sizeOf212
 v171 := Tryz.zeroValue212
 t173 := Tryz.underlying215
 a173 := Tryz.isAgg215
 z173 := Tryz.sizeOf215
 v173 := Tryz.zeroValue215
 t175 := Tryz.underlying188
 a175 := Tryz.isAgg188
 z175 := Tryz.sizeOf188
 v175 := Tryz.zeroValue188
 t210 := Tryz.underlying192
 a210 := Tryz.isAgg192
 z210 := Tryz.sizeOf192
 v210 := Tryz.zeroValue192
 t212 := Tryz.underlying218
 a212 := Tryz.isAgg218
 z212 := Tryz.sizeOf218
 v212 := Tryz.zeroValue218
 t213 := Tryz.underlying219
 a213 := Tryz.isAgg219
 z213 := Tryz.sizeOf219
 t232 := Tryz.underlying222
 a232 := Tryz.isAgg222
 z232 := Tryz.sizeOf222
 v232 := Tryz.zeroValue222
 t233 := Tryz.underlying223
 a233 := Tryz.isAgg223
 z233 := Tryz.sizeOf223
 v233 := Tryz.zeroValue223
 g15 := by kernel_rfl
 g16 := by kernel_rfl
 g17 := by kernel_rfl
 g18 := by kernel_rfl
 g19 := by kernel_rfl }
open Go.RowKit in
theorem Tryz.strconv_Atoi (s : ByteArray) (n : Int) (hl : s.size ≤ 18) (h : Lib.atoi s.data.toList = some n) (w : World) :
   Calls Tryz.prog 137 #[.string s] w fun e w' => e = .returned (.tuple #[.int .i64 n, .nilIface]) ∧ ∃ t, w' = Lib.bytesWorld w 5 t := Any.strconv_Atoi Tryz.lays172 s n hl h w
def Tryz.lays154_ren : Go.Shelf.Ren := ⟨fun | 154 => 143 | 138 => 149 | 165 => 150 | 143 => 151 | 166 => 152 | 197 => 153 | 169 => 154 | 195 => 163 | 218 => 164 | 240 => 165 | 241 => 166 | 219 => 167 | 260 => 168 | 276 => 177 | 277 => 178 | 217 => 179 | 225 => 180 | 224 => 181 | 267 => 182 | 266 => 188 | 314 => 189 | n => n, fun | 9 => 9 | 3 => 3 | 4 => 4 | 72 => 168 | 0 => 0 | 76 => 153 | 105 => 170 | 21 => 21 | 5 => 5 | 70 => 166 | 20 => 20 | 37 => 42 | 75 => 152 | 127 => 186 | 164 => 197 | 46 => 190 | 119 => 200 | 139 => 203 | 138 => 202 | 146 => 209 | 51 => 208 | 80 => 172 | n => n, fun | 1 => 7 | 3 => 8 | 4 => 9 | n => n⟩
theorem Tryz.lays154 : Go.Proofs.Lays.n154 Tryz.prog Tryz.lays154_ren := {
 mixed := by kernel_rfl
 f138 := Tryz.func149.trans (congrArg some (by kernel_rfl))
 f143 := Tryz.func151.trans (congrArg some (by kernel_rfl))
 f154 := Tryz.func143.trans (congrArg some (by kernel_rfl))
 f165 := Tryz.func150.trans (congrArg some (by kernel_rfl))
 f166 := Tryz.func152.trans (congrArg some (by kernel_rfl))
 f169 := Tryz.func154.trans (congrArg some (by kernel_rfl))
 f195 := Tryz.func163.trans (congrArg some (by kernel_rfl))
 f197 := Tryz.func153.trans (congrArg some (by kernel_rfl))
 f217 := Tryz.func179.trans (congrArg some (by kernel_rfl))
 f218 := Tryz.func164.trans (congrArg some (by kernel_rfl))
 f219 := Tryz.func167.trans (congrArg some (by kernel_rfl))
 f224 := Tryz.func181.trans (congrArg some (by kernel_rfl))
 f225 := Tryz.func180.trans (congrArg some (by kernel_rfl))
 f240 := Tryz.func165.trans (congrArg some (by kernel_rfl))
 f241 := Tryz.func166.trans (congrArg some (by kernel_rfl))
 f260 := Tryz.func168.trans (congrArg some (by kernel_rfl))
 f266 := Tryz.func188.trans (congrArg some (by kernel_rfl))
 f267 := Tryz.func182.trans (congrArg some (by kernel_rfl))
 f276 := Tryz.func177.trans (congrArg some (by kernel_rfl))
 f277 := Tryz.func178.trans (congrArg some (by kernel_rfl))
 f314 := Tryz.func189.trans (congrArg some (by kernel_rfl))
 t0 := Tryz.underlying0
 a0 := Tryz.isAgg0
 z0 := Tryz.sizeOf0
 v0 := Tryz.zeroValue0
 t3 := Tryz.underlying3
 a3 := Tryz.isAgg3
 z3 := Tryz.sizeOf3
 v3 := Tryz.zeroValue3
 t4 := Tryz.underlying4
 a4 := Tryz.isAgg4
 z4 := Tryz.sizeOf4
 v4 := Tryz.zeroValue4
 t5 := Tryz.underlying5
 a5 := Tryz.isAgg5
 z5 := Tryz.sizeOf5
 v5 := Tryz.zeroValue5
 t9 := Tryz.underlying9
 a9 := Tryz.isAgg9
 z9 := Tryz.sizeOf9
 v9 := Tryz.zeroValue9
 t20 := Tryz.underlying20
 a20 := Tryz.isAgg20
 z20 := Tryz.sizeOf20
 v20 := Tryz.zeroValue20
 t21 := Tryz.underlying21
 a21 := Tryz.isAgg21
 z21 := Tryz.sizeOf21
 v21 := Tryz.zeroValue21
 t37 := Tryz.underlying42
 a37 := Tryz.isAgg42
 z37 := Tryz.sizeOf42
 v37 := Tryz.zeroValue42
 t46 := Tryz.underlying190
 a46 := Tryz.isAgg190
 z46 := Tryz.sizeOf190
 v46 := Tryz.zeroValue190
 t51 := Tryz.underlying208
 a51 := Tryz.isAgg208
 z51 := Tryz.sizeOf208
 v51 := Tryz.zeroValue208
 t70 := Tryz.underlying166
 a70 := Tryz.isAgg166
 z70 := Tryz.sizeOf166
 v70 := Tryz.zeroValue166
 t72 := Tryz.underlying168
 a72 := Tryz.isAgg168
 z72 := Tryz.sizeOf168
 v72 := Tryz.zeroValue168
 t75 := Tryz.underlying152
 a75 := Tryz.isAgg152
 z75 := Tryz.sizeOf152
 v75 := Tryz.zeroValue152
 t76 := Tryz.underlying153
 a76 := Tryz.isAgg153
 z76 := Tryz.sizeOf153
 v76 := Tryz.zeroValue153
 t105 := Tryz.underlying170
 a105 := Tryz.isAgg170
 z105 := Tryz.sizeOf170
 v105 := Tryz.zeroValue170
 t119 := Tryz.underlying200
 a119 := Tryz.isAgg200
 z119 := Tryz.sizeOf200
 t127 := Tryz.underlying186
 a127 := Tryz.isAgg186
 z127 := Tryz.sizeOf186
 v127 := Tryz.zeroValue186
 t138 := Tryz.underlying202
 a138 := Tryz.isAgg202
 z138 := Tryz.sizeOf202
 v138 := Tryz.zeroValue202
 t139 := Tryz.underlying203
 a139 := Tryz.isAgg203
 z139 := Tryz.sizeOf203
 v139 := Tryz.zeroValue203
 t146 := Tryz.underlying209
 a146 := Tryz.isAgg209
 z146 := Tryz.sizeOf209
 v146 := Tryz.zeroValue209
 t164 := Tryz.underlying197
 a164 := Tryz.isAgg197
 z164 := Tryz.sizeOf197
 v164 := Tryz.zeroValue197
 g1 := by kernel_rfl
 g3 := by kernel_rfl
 g4 := by kernel_rfl }
theorem Tryz.Builder_Extra_154 : Builder.Extra Tryz.prog Tryz.lays154_ren := {
 sizeBuilder := by kernel_rfl
 liesBuilder := by kernel_rfl
 t5 := Tryz.underlying5
 a5 := Tryz.isAgg5
 z5 := Tryz.sizeOf5
 v5 := Tryz.zeroValue5
 infoByte := by kernel_rfl
 cellsByte := by kernel_rfl
 sizeByte := by kernel_rfl
 neB5 := by decide }
open Go.RowKit Go.Lib in
theorem Tryz.strings_Replace (s old new : ByteArray) (n : Int) (m : Int) (w : World) (hs : s.size < 4294967281) (hm : w.cell? ⟨7, 0, none⟩ = some (.int .i64 m)) (h1 : 1 ≤ old.size) (hlen : s.size + Lib.countB s old * new.size ≤ 140737488355328) :
   Calls Tryz.prog 143 #[.string s, .string old, .string new, .int .i64 n] w fun e w' =>
     e = .returned (.string ⟨(Lib.replace s.data.toList old.data.toList new.data.toList n).toArray⟩) ∧ Below w.heap.size w w' := Any.strings_Replace Tryz.lays154 Tryz.Builder_Extra_154 s old new n m w hs hm h1 hlen
end Go.Proofs
namespace Go.Proofs.YtkfplcngmiljaaaGreatDoor
open AI Go Go.RowKit LexS
def strL (s : List UInt8) : AV := .sc (.string ⟨s.toArray⟩)
namespace HdU
def clsA : List AV := (List.range 128).map fun i => .sc (.int .u8 (cls i : Nat))
def symA : List AV := syms.map strL
def int (n : Int) : AV := .sc (.int .i64 n)
def G (mx : Int) : Glob := fun g =>
 match Nat.beq g 3 with
 | true => some [strL [111, 114], strL [], strL [], strL [], strL [], strL [], strL [97, 110, 100], strL [], strL [], strL [], strL [], strL [], strL [], strL [], strL [], strL [], strL [], strL [], strL [61, 61], strL [33, 61], strL [60], strL [60, 61], strL [62], strL [62, 61], strL [43], strL [45], strL [], strL [], strL [], strL [], strL [42], strL [47], strL [97, 116], strL [], strL [], strL []]
 | false => match Nat.beq g 1 with
   | true => some [strL [], strL [101, 97, 114, 110], strL [100, 101, 100, 117, 99, 116], strL [102, 108, 111, 111, 114], strL [105, 110, 102, 111]]
   | false => match Nat.beq g 6 with
     | true => some [int 0, int 31, int 59, int 90, int 120, int 151, int 181, int 212, int 243, int 273, int 304, int 334, int 365]
     | false => match Nat.beq g 2 with
       | true => some clsA
       | false => match Nat.beq g 0 with
         | true => some symA
         | false => match Nat.beq g 7 with
           | true => some [int mx]
           | false => none
variable {mx : Int}
theorem plain_strs : ∀ l : List (List UInt8), plainL (l.map strL) = true
 | [] => rfl
 | s :: l => by
   show (true && plainL (l.map strL)) = true
   rw [plain_strs l]; rfl
theorem plain_u8 : ∀ l : List Nat, plainL (l.map fun i => (.sc (.int .u8 (cls i : Nat)) : AV)) = true
 | [] => rfl
 | s :: l => by
   show (true && plainL (l.map fun i => (.sc (.int .u8 (cls i : Nat)) : AV))) = true
   rw [plain_u8 l]; rfl
theorem plainG (g : Nat) (cs : List AV) (h : G mx g = some cs) : plainL cs = true := by
 unfold G at h
 split at h
 · cases h; rfl
 · split at h
   · cases h; rfl
   · split at h
     · cases h; rfl
     · split at h
       · cases h; exact plain_u8 _
       · split at h
         · cases h; exact plain_strs _
         · split at h
           · cases h; rfl
           · cases h
theorem tabs {cx : Cx} {w : World} {s : AS} (h : St (G mx) cx w s) : Tabs w := by
 refine ⟨fun i hi => ?_, fun j v hj => ?_⟩
 · have hc := h.glob 2 clsA rfl
   have he : clsA[i]? = some (.sc (.int .u8 (cls i : Nat))) := by simp [clsA, hi]
   obtain ⟨v, hv, hr⟩ := hc.get he
   cases hr
   have := hv.2.2
   rwa [Nat.zero_add] at this
 · have hc := h.glob 0 symA rfl
   have hj' : (syms.map fun y => Value.string ⟨y.toArray⟩)[j]? = some v := by simpa [symArr] using hj
   rw [List.getElem?_map] at hj'
   obtain ⟨y, hy, rfl⟩ := Option.map_eq_some_iff.1 hj'
   have he : symA[j]? = some (strL y) := by simp [symA, hy]
   obtain ⟨u, hu, hr⟩ := hc.get he
   unfold strL at hr
   cases hr
   have := hu.2.2
   rwa [Nat.zero_add] at this
theorem chg_below {w w' : World} (h : Below w.heap.size w w') : Chg w w' (fun _ => False) := ⟨h.os, h.tape, h.output, h.size, fun k hk _ => h.block k hk⟩
def tokA (l : List Tok) : List AV := l.flatMap fun x => [int x.1, strL x.2.1, int x.2.2]
def lexV (r : List Tok × Nat × Nat) : AV := .tup [.sl .lost r.1.length (tokA r.1), int r.2.1, int r.2.2]
theorem tokA_len (l : List Tok) : (tokA l).length = (tokCells l).length := by
 unfold tokA tokCells
 induction l with
 | nil => rfl
 | cons x l ih => simp only [List.flatMap_cons, List.length_append, ih]; rfl
theorem tokA_at (cx : Cx) (w : World) (l : List Tok) : RpL cx w (tokA l) (tokCells l) := by
 unfold tokA tokCells
 induction l with
 | nil => exact .nil
 | cons x l ih =>
   simp only [List.flatMap_cons]
   exact RpL.append (.cons (.sc rfl) (.cons (.sc rfl) (.cons (.sc rfl) .nil))) ih
theorem lex_ent (t : List UInt8) (v : AV) (h : eqA v (lexV (lexS t)) = true) : EntOk Tryz.prog (G mx) ⟨43, [strL t], none, v⟩ := by
 have hv := eqA_ok h
 subst hv
 intro s cx w vs hs ha
 cases ha with
 | cons h1 tl =>
 cases tl
 unfold strL at h1
 cases h1
 have hL : L (⟨t.toArray⟩ : ByteArray) = t := by simp [L]
 refine (lex_any ⟨t.toArray⟩ w (tabs hs)).mono ?_
 rw [hL]
 rintro e w' ⟨u, rfl, hown, hb⟩
 obtain ⟨x, st⟩ := hs.same (chg_below hb)
 refine ⟨cx, x, st, _, rfl, ?_⟩
 refine .tup (vs := [u, .int .i64 (lexS t).2.1, .int .i64 (lexS t).2.2]) (.cons ?_ (.cons (.sc rfl) (.cons (.sc rfl) .nil)))
 have hl := tokA_len (lexS t).1
 have hc := tokA_at cx w' (lexS t).1
 obtain ⟨h1, ⟨rfl, h2⟩ | ⟨g, cap, cur, rfl, hg, hw, hn, _, hsz, htk⟩⟩ := hown
 · have : (lexS t).1 = [] := List.eq_nil_of_length_eq_zero h2
   rw [this]
   exact .sl0 trivial
 · refine .sl1 hn (CellsAt.of_vals hc (fun i v hi => ⟨(Array.getElem?_eq_some_iff.1 hw).1, fun hsh => ?_, ?_⟩)) trivial
   · have : g < w.heap.size := hs.shy_lt hsh
     omega
   · rw [Nat.zero_add, cell_of_row w' g i cur _ _ hw]
     rw [← htk, List.getElem?_take] at hi
     split at hi
     · rwa [Array.getElem?_toList] at hi
     · cases hi
theorem chg_bytes (w : World) (e : TypeId) (s : ByteArray) : Chg w (Lib.bytesWorld w e s) (fun _ => False) :=
 chg_below (Lib.below_freeze ((Below.drew (Below.refl _ w)).alloc (Nat.le_refl _) _) (p := ⟨w.heap.size, _, Option.none⟩) (Nat.le_refl _) 1)
theorem atoi_ent (t : List UInt8) (n : Int) (hl : Nat.ble t.length 18 = true) (h : Lib.atoi t = some n) : EntOk Tryz.prog (G mx) ⟨137, [strL t], none, .tup [int n, .sc .nilIface]⟩ := by
 intro s cx w vs hs ha
 cases ha with
 | cons h1 tl =>
 cases tl
 unfold strL at h1
 cases h1
 refine (Tryz.strconv_Atoi ⟨t.toArray⟩ n (by have := Nat.le_of_ble_eq_true hl; show t.toArray.size ≤ 18; simpa using this) (by simpa using h) w).mono ?_
 rintro e w' ⟨rfl, tt, rfl⟩
 obtain ⟨x, st⟩ := hs.same (chg_bytes w _ tt)
 exact ⟨cx, x, st, _, rfl, .tup (vs := [.int .i64 n, .nilIface]) (.cons (.sc rfl) (.cons (.sc rfl) .nil))⟩
theorem repl_ent (t old new r : List UInt8) (n : Int) (h1 : Nat.ble 1 old.length = true) (h2 : Nat.ble (t.length + Lib.countB ⟨t.toArray⟩ ⟨old.toArray⟩ * new.length) 4000 = true) (h : Lib.replace t old new n = r) : EntOk Tryz.prog (G mx) ⟨143, [strL t, strL old, strL new, int n], none, strL r⟩ := by
 intro s cx w vs hs ha
 cases ha with
 | cons a1 tl =>
 cases tl with
 | cons a2 tl =>
 cases tl with
 | cons a3 tl =>
 cases tl with
 | cons a4 tl =>
 cases tl
 unfold strL at a1 a2 a3
 unfold int at a4
 cases a1; cases a2; cases a3; cases a4
 have hc := h.symm
 have hm : w.cell? ⟨7, 0, none⟩ = some (.int .i64 mx) := by
   have hg := hs.glob 7 [int mx] rfl
   obtain ⟨v, hv, hr⟩ := hg.get (i := 0) rfl
   unfold int at hr
   cases hr
   exact hv.2.2
 have k2 := Nat.le_of_ble_eq_true h2
 have k1 := Nat.le_of_ble_eq_true h1
 refine (Tryz.strings_Replace ⟨t.toArray⟩ ⟨old.toArray⟩ ⟨new.toArray⟩ n mx w ?_ hm ?_ ?_).mono ?_
 · show t.toArray.size < _; simp; omega
 · show 1 ≤ old.toArray.size; simpa using k1
 · have e1 : (⟨t.toArray⟩ : ByteArray).size = t.length := by show t.toArray.size = _; simp
   have e2 : (⟨new.toArray⟩ : ByteArray).size = new.length := by show new.toArray.size = _; simp
   rw [e1, e2]; omega
 · rintro e w' ⟨rfl, hb⟩
   obtain ⟨x, st⟩ := hs.same (chg_below hb)
   refine ⟨cx, x, st, _, rfl, ?_⟩
   subst hc
   exact .sc rfl
def tryG (g : Nat) (first caps : List AV) : Option (FuncId × List AV × (CR → Option CR)) := match Nat.beq g 45 with
 | true => some (45, first ++ [] ++ caps, tryK)
 | false => (match Nat.beq g 74 with
   | true => some (74, first ++ [] ++ caps, tryK)
   | false => none)
def tryA : List AV → Option (FuncId × List AV × (CR → Option CR))
 | [.fn (.func g) first caps] => tryG g first caps
 | _ => none
def H : Hook := fun f args => match Nat.beq f 44 with
 | true => tryA args
 | false => none
def X (l : List Ent) : ExtsF := fun f args s => find f args s l
theorem given {l : List Ent} (hl : ∀ e ∈ l, EntOk Tryz.prog (G mx) e) : Given Tryz.prog (G mx) (XP (X l)) H := by
 refine ⟨by kernel_rfl, fun f args s r s' h => find_ok hl h, fun f args g gargs k h s r s' r' hs hk => ?_⟩
 unfold H at h
 split at h
 · rename_i hf
   rw [beq_true hf]
   unfold tryA at h
   split at h
   · rename_i g0 first caps
     unfold tryG at h
     split at h
     · rename_i hg0; rw [beq_true hg0]; cases h; exact try_sound (by kernel_rfl) hs hk
     · split at h
       · rename_i hg0; rw [beq_true hg0]; cases h; exact try_sound (by kernel_rfl) hs hk
       · cases h
   · cases h
 · cases h
theorem none : ∀ e ∈ ([] : List Ent), EntOk Tryz.prog (G mx) e := fun e he => by cases he
theorem entry {e : Ent} {l : List Ent} {m : Nat} (hl : ∀ e ∈ l, EntOk Tryz.prog (G mx) e) (hp : entPlain e = true) (h : runIs e (goR Tryz.prog (G mx) (X l) H m (startOf e)) = true) : EntOk Tryz.prog (G mx) e := ent_ok (given hl) plainG hp h
end HdU
end Go.Proofs.YtkfplcngmiljaaaGreatDoor
namespace Go.Proofs.YtkfplcngmiljaaaGreatDoor
open AI
set_option maxRecDepth 100000
set_option maxHeartbeats 4000000
def k0 : AV := strL [102, 97, 99, 116, 32, 104, 111, 117, 114, 115, 32, 58, 32, 109, 105, 110, 117, 116, 101, 115, 59, 32, 102, 97, 99, 116, 32, 114, 97, 116, 101, 32, 58, 32, 69, 85, 82, 59, 32, 102, 97, 99, 116, 32, 109, 97, 114, 114, 105, 101, 100, 32, 58, 32, 116, 114, 117, 116, 104, 59, 32, 108, 105, 110, 101, 32, 98, 97, 115, 105, 99, 32, 58, 32, 69, 85, 82, 32, 101, 97, 114, 110, 59, 32, 97, 114, 116, 105, 99, 108, 101, 32, 49, 32, 102, 111, 114, 32, 98, 97, 115, 105, 99, 32, 114, 97, 110, 107, 32, 49, 32, 102, 114, 111, 109, 32, 50, 48, 50, 52, 45, 48, 49, 45, 48, 49, 32, 107, 110, 111, 119, 110, 32, 50, 48, 50, 52, 45, 48, 49, 45, 48, 49, 32, 123, 32, 97, 109, 111, 117, 110, 116, 32, 69, 85, 82, 32, 49, 46, 48, 48, 59, 32, 125]
def k1 : AV := strL [109, 105, 110, 117, 116, 101, 115]
def k2 : AV := strL [109, 97, 114, 114, 105, 101, 100]
def k3 : AV := strL [97, 114, 116, 105, 99, 108, 101]
def k4 : AV := strL [50, 48, 50, 52, 45, 48, 49, 45, 48, 49]
def k5 : AV := .sl .lost 37 [(.sc (.int .i64 (.ofNat 1))), (strL [102, 97, 99, 116]), (.sc (.int .i64 (.ofNat 0))), (.sc (.int .i64 (.ofNat 1))), (strL [104, 111, 117, 114, 115]), (.sc (.int .i64 (.ofNat 5))), (.sc (.int .i64 (.ofNat 6))), (strL [58]), (.sc (.int .i64 (.ofNat 11))), (.sc (.int .i64 (.ofNat 1))), k1, (.sc (.int .i64 (.ofNat 13))), (.sc (.int .i64 (.ofNat 6))), (strL [59]), (.sc (.int .i64 (.ofNat 20))), (.sc (.int .i64 (.ofNat 1))), (strL [102, 97, 99, 116]), (.sc (.int .i64 (.ofNat 22))), (.sc (.int .i64 (.ofNat 1))), (strL [114, 97, 116, 101]), (.sc (.int .i64 (.ofNat 27))), (.sc (.int .i64 (.ofNat 6))), (strL [58]), (.sc (.int .i64 (.ofNat 32))), (.sc (.int .i64 (.ofNat 2))), (strL [69, 85, 82]), (.sc (.int .i64 (.ofNat 34))), (.sc (.int .i64 (.ofNat 6))), (strL [59]), (.sc (.int .i64 (.ofNat 37))), (.sc (.int .i64 (.ofNat 1))), (strL [102, 97, 99, 116]), (.sc (.int .i64 (.ofNat 39))), (.sc (.int .i64 (.ofNat 1))), k2, (.sc (.int .i64 (.ofNat 44))), (.sc (.int .i64 (.ofNat 6))), (strL [58]), (.sc (.int .i64 (.ofNat 52))), (.sc (.int .i64 (.ofNat 1))), (strL [116, 114, 117, 116, 104]), (.sc (.int .i64 (.ofNat 54))), (.sc (.int .i64 (.ofNat 6))), (strL [59]), (.sc (.int .i64 (.ofNat 59))), (.sc (.int .i64 (.ofNat 1))), (strL [108, 105, 110, 101]), (.sc (.int .i64 (.ofNat 61))), (.sc (.int .i64 (.ofNat 1))), (strL [98, 97, 115, 105, 99]), (.sc (.int .i64 (.ofNat 66))), (.sc (.int .i64 (.ofNat 6))), (strL [58]), (.sc (.int .i64 (.ofNat 72))), (.sc (.int .i64 (.ofNat 2))), (strL [69, 85, 82]), (.sc (.int .i64 (.ofNat 74))), (.sc (.int .i64 (.ofNat 1))), (strL [101, 97, 114, 110]), (.sc (.int .i64 (.ofNat 78))), (.sc (.int .i64 (.ofNat 6))), (strL [59]), (.sc (.int .i64 (.ofNat 82))), (.sc (.int .i64 (.ofNat 1))), k3, (.sc (.int .i64 (.ofNat 84))), (.sc (.int .i64 (.ofNat 3))), (strL [49]), (.sc (.int .i64 (.ofNat 92))), (.sc (.int .i64 (.ofNat 1))), (strL [102, 111, 114]), (.sc (.int .i64 (.ofNat 94))), (.sc (.int .i64 (.ofNat 1))), (strL [98, 97, 115, 105, 99]), (.sc (.int .i64 (.ofNat 98))), (.sc (.int .i64 (.ofNat 1))), (strL [114, 97, 110, 107]), (.sc (.int .i64 (.ofNat 104))), (.sc (.int .i64 (.ofNat 3))), (strL [49]), (.sc (.int .i64 (.ofNat 109))), (.sc (.int .i64 (.ofNat 1))), (strL [102, 114, 111, 109]), (.sc (.int .i64 (.ofNat 111))), (.sc (.int .i64 (.ofNat 5))), k4, (.sc (.int .i64 (.ofNat 116))), (.sc (.int .i64 (.ofNat 1))), (strL [107, 110, 111, 119, 110]), (.sc (.int .i64 (.ofNat 127))), (.sc (.int .i64 (.ofNat 5))), k4, (.sc (.int .i64 (.ofNat 133))), (.sc (.int .i64 (.ofNat 6))), (strL [123]), (.sc (.int .i64 (.ofNat 144))), (.sc (.int .i64 (.ofNat 1))), (strL [97, 109, 111, 117, 110, 116]), (.sc (.int .i64 (.ofNat 146))), (.sc (.int .i64 (.ofNat 2))), (strL [69, 85, 82]), (.sc (.int .i64 (.ofNat 153))), (.sc (.int .i64 (.ofNat 4))), (strL [49, 46, 48, 48]), (.sc (.int .i64 (.ofNat 157))), (.sc (.int .i64 (.ofNat 6))), (strL [59]), (.sc (.int .i64 (.ofNat 161))), (.sc (.int .i64 (.ofNat 6))), (strL [125]), (.sc (.int .i64 (.ofNat 163)))]
def k6 : AV := strL [104, 111, 117, 114, 115, 32, 97, 116, 32, 114, 97, 116, 101, 32, 43, 32, 97, 114, 116, 32, 49]
def k7 : AV := .sl .lost 6 [(.sc (.int .i64 (.ofNat 1))), (strL [104, 111, 117, 114, 115]), (.sc (.int .i64 (.ofNat 0))), (.sc (.int .i64 (.ofNat 1))), (strL [97, 116]), (.sc (.int .i64 (.ofNat 6))), (.sc (.int .i64 (.ofNat 1))), (strL [114, 97, 116, 101]), (.sc (.int .i64 (.ofNat 9))), (.sc (.int .i64 (.ofNat 6))), (strL [43]), (.sc (.int .i64 (.ofNat 14))), (.sc (.int .i64 (.ofNat 1))), (strL [97, 114, 116]), (.sc (.int .i64 (.ofNat 16))), (.sc (.int .i64 (.ofNat 3))), (strL [49]), (.sc (.int .i64 (.ofNat 20)))]
def k8 : AV := strL [104, 111, 117, 114, 115, 32, 62, 32, 56, 32, 109, 105, 110, 32, 97, 110, 100, 32, 109, 97, 114, 114, 105, 101, 100]
def k9 : AV := .sl .lost 6 [(.sc (.int .i64 (.ofNat 1))), (strL [104, 111, 117, 114, 115]), (.sc (.int .i64 (.ofNat 0))), (.sc (.int .i64 (.ofNat 6))), (strL [62]), (.sc (.int .i64 (.ofNat 6))), (.sc (.int .i64 (.ofNat 3))), (strL [56]), (.sc (.int .i64 (.ofNat 8))), (.sc (.int .i64 (.ofNat 1))), (strL [109, 105, 110]), (.sc (.int .i64 (.ofNat 10))), (.sc (.int .i64 (.ofNat 1))), (strL [97, 110, 100]), (.sc (.int .i64 (.ofNat 14))), (.sc (.int .i64 (.ofNat 1))), k2, (.sc (.int .i64 (.ofNat 18)))]
def k10 : AV := strL [110, 111, 116, 32, 109, 97, 114, 114, 105, 101, 100, 32, 61, 61, 32, 116, 114, 117, 101]
def k11 : AV := .sl .lost 4 [(.sc (.int .i64 (.ofNat 1))), (strL [110, 111, 116]), (.sc (.int .i64 (.ofNat 0))), (.sc (.int .i64 (.ofNat 1))), k2, (.sc (.int .i64 (.ofNat 4))), (.sc (.int .i64 (.ofNat 6))), (strL [61, 61]), (.sc (.int .i64 (.ofNat 12))), (.sc (.int .i64 (.ofNat 1))), (strL [116, 114, 117, 101]), (.sc (.int .i64 (.ofNat 15)))]
def k12 : AV := strL [114, 97, 116, 101, 32, 42, 32, 51, 32, 47, 32, 49, 48, 48]
def k13 : AV := .sl .lost 5 [(.sc (.int .i64 (.ofNat 1))), (strL [114, 97, 116, 101]), (.sc (.int .i64 (.ofNat 0))), (.sc (.int .i64 (.ofNat 6))), (strL [42]), (.sc (.int .i64 (.ofNat 5))), (.sc (.int .i64 (.ofNat 3))), (strL [51]), (.sc (.int .i64 (.ofNat 7))), (.sc (.int .i64 (.ofNat 6))), (strL [47]), (.sc (.int .i64 (.ofNat 9))), (.sc (.int .i64 (.ofNat 3))), (strL [49, 48, 48]), (.sc (.int .i64 (.ofNat 11)))]
def k14 : AV := strL [50, 32, 42, 32, 104, 111, 117, 114, 115]
def k15 : AV := .sl .lost 3 [(.sc (.int .i64 (.ofNat 3))), (strL [50]), (.sc (.int .i64 (.ofNat 0))), (.sc (.int .i64 (.ofNat 6))), (strL [42]), (.sc (.int .i64 (.ofNat 2))), (.sc (.int .i64 (.ofNat 1))), (strL [104, 111, 117, 114, 115]), (.sc (.int .i64 (.ofNat 4)))]
def k16 : AV := strL [114, 97, 116, 101, 32, 42, 32, 114, 97, 116, 101]
def k17 : AV := .sl .lost 3 [(.sc (.int .i64 (.ofNat 1))), (strL [114, 97, 116, 101]), (.sc (.int .i64 (.ofNat 0))), (.sc (.int .i64 (.ofNat 6))), (strL [42]), (.sc (.int .i64 (.ofNat 5))), (.sc (.int .i64 (.ofNat 1))), (strL [114, 97, 116, 101]), (.sc (.int .i64 (.ofNat 7)))]
def k18 : AV := strL [104, 111, 117, 114, 115, 32, 43, 32, 49]
def k19 : AV := .sl .lost 3 [(.sc (.int .i64 (.ofNat 1))), (strL [104, 111, 117, 114, 115]), (.sc (.int .i64 (.ofNat 0))), (.sc (.int .i64 (.ofNat 6))), (strL [43]), (.sc (.int .i64 (.ofNat 6))), (.sc (.int .i64 (.ofNat 3))), (strL [49]), (.sc (.int .i64 (.ofNat 8)))]
def k20 : AV := .sl .lost 3 [(.sc (.int .i64 (.ofNat 1))), (strL [120]), (.sc (.int .i64 (.ofNat 0))), (.sc (.int .i64 (.ofNat 6))), (strL [43]), (.sc (.int .i64 (.ofNat 2))), (.sc (.int .i64 (.ofNat 3))), (strL [49]), (.sc (.int .i64 (.ofNat 4)))]
def k21 : AV := strL [116, 97, 98, 108, 101, 40, 104, 111, 117, 114, 115, 59, 32, 48, 32, 58, 32, 48, 32, 43, 32, 49, 47, 49, 48, 41]
def k22 : AV := .sl .lost 12 [(.sc (.int .i64 (.ofNat 1))), (strL [116, 97, 98, 108, 101]), (.sc (.int .i64 (.ofNat 0))), (.sc (.int .i64 (.ofNat 6))), (strL [40]), (.sc (.int .i64 (.ofNat 5))), (.sc (.int .i64 (.ofNat 1))), (strL [104, 111, 117, 114, 115]), (.sc (.int .i64 (.ofNat 6))), (.sc (.int .i64 (.ofNat 6))), (strL [59]), (.sc (.int .i64 (.ofNat 11))), (.sc (.int .i64 (.ofNat 3))), (strL [48]), (.sc (.int .i64 (.ofNat 13))), (.sc (.int .i64 (.ofNat 6))), (strL [58]), (.sc (.int .i64 (.ofNat 15))), (.sc (.int .i64 (.ofNat 3))), (strL [48]), (.sc (.int .i64 (.ofNat 17))), (.sc (.int .i64 (.ofNat 6))), (strL [43]), (.sc (.int .i64 (.ofNat 19))), (.sc (.int .i64 (.ofNat 3))), (strL [49]), (.sc (.int .i64 (.ofNat 21))), (.sc (.int .i64 (.ofNat 6))), (strL [47]), (.sc (.int .i64 (.ofNat 22))), (.sc (.int .i64 (.ofNat 3))), (strL [49, 48]), (.sc (.int .i64 (.ofNat 23))), (.sc (.int .i64 (.ofNat 6))), (strL [41]), (.sc (.int .i64 (.ofNat 25)))]
def k23 : AV := strL [108, 101, 97, 115, 116, 40, 114, 97, 116, 101, 44, 32, 69, 85, 82, 32, 49, 46, 48, 48, 41]
def k24 : AV := .sl .lost 7 [(.sc (.int .i64 (.ofNat 1))), (strL [108, 101, 97, 115, 116]), (.sc (.int .i64 (.ofNat 0))), (.sc (.int .i64 (.ofNat 6))), (strL [40]), (.sc (.int .i64 (.ofNat 5))), (.sc (.int .i64 (.ofNat 1))), (strL [114, 97, 116, 101]), (.sc (.int .i64 (.ofNat 6))), (.sc (.int .i64 (.ofNat 6))), (strL [44]), (.sc (.int .i64 (.ofNat 10))), (.sc (.int .i64 (.ofNat 2))), (strL [69, 85, 82]), (.sc (.int .i64 (.ofNat 12))), (.sc (.int .i64 (.ofNat 4))), (strL [49, 46, 48, 48]), (.sc (.int .i64 (.ofNat 16))), (.sc (.int .i64 (.ofNat 6))), (strL [41]), (.sc (.int .i64 (.ofNat 20)))]
def k25 : AV := strL [102, 97, 99, 116, 32, 104, 111, 117, 114, 115, 32, 58, 32, 109, 105, 110, 117, 116, 101, 115, 59, 32, 102, 97, 99, 116, 32, 114, 97, 116, 101, 32, 58, 32, 69, 85, 82, 59, 32, 102, 97, 99, 116, 32, 109, 97, 114, 114, 105, 101, 100, 32, 58, 32, 116, 114, 117, 116, 104, 59, 32, 108, 105, 110, 101, 32, 98, 97, 115, 105, 99, 32, 58, 32, 69, 85, 82, 32, 101, 97, 114, 110, 59, 32, 97, 114, 116, 105, 99, 108, 101, 32, 49, 32, 102, 111, 114, 32, 98, 97, 115, 105, 99, 32, 114, 97, 110, 107, 32, 49, 32, 102, 114, 111, 109, 32, 50, 48, 50, 52, 45, 48, 49, 45, 48, 49, 32, 107, 110, 111, 119, 110, 32, 50, 48, 50, 52, 45, 48, 49, 45, 48, 49, 32, 123, 32, 97, 109, 111, 117, 110, 116, 32, 69, 85, 82, 32, 49, 46, 48, 48, 59, 32, 125, 32, 108, 105, 110, 101, 32, 98, 97, 115, 105, 99, 32, 58, 32, 110, 117, 109, 98, 101, 114, 32, 105, 110, 102, 111, 59]
def k26 : AV := .sl .lost 43 [(.sc (.int .i64 (.ofNat 1))), (strL [102, 97, 99, 116]), (.sc (.int .i64 (.ofNat 0))), (.sc (.int .i64 (.ofNat 1))), (strL [104, 111, 117, 114, 115]), (.sc (.int .i64 (.ofNat 5))), (.sc (.int .i64 (.ofNat 6))), (strL [58]), (.sc (.int .i64 (.ofNat 11))), (.sc (.int .i64 (.ofNat 1))), k1, (.sc (.int .i64 (.ofNat 13))), (.sc (.int .i64 (.ofNat 6))), (strL [59]), (.sc (.int .i64 (.ofNat 20))), (.sc (.int .i64 (.ofNat 1))), (strL [102, 97, 99, 116]), (.sc (.int .i64 (.ofNat 22))), (.sc (.int .i64 (.ofNat 1))), (strL [114, 97, 116, 101]), (.sc (.int .i64 (.ofNat 27))), (.sc (.int .i64 (.ofNat 6))), (strL [58]), (.sc (.int .i64 (.ofNat 32))), (.sc (.int .i64 (.ofNat 2))), (strL [69, 85, 82]), (.sc (.int .i64 (.ofNat 34))), (.sc (.int .i64 (.ofNat 6))), (strL [59]), (.sc (.int .i64 (.ofNat 37))), (.sc (.int .i64 (.ofNat 1))), (strL [102, 97, 99, 116]), (.sc (.int .i64 (.ofNat 39))), (.sc (.int .i64 (.ofNat 1))), k2, (.sc (.int .i64 (.ofNat 44))), (.sc (.int .i64 (.ofNat 6))), (strL [58]), (.sc (.int .i64 (.ofNat 52))), (.sc (.int .i64 (.ofNat 1))), (strL [116, 114, 117, 116, 104]), (.sc (.int .i64 (.ofNat 54))), (.sc (.int .i64 (.ofNat 6))), (strL [59]), (.sc (.int .i64 (.ofNat 59))), (.sc (.int .i64 (.ofNat 1))), (strL [108, 105, 110, 101]), (.sc (.int .i64 (.ofNat 61))), (.sc (.int .i64 (.ofNat 1))), (strL [98, 97, 115, 105, 99]), (.sc (.int .i64 (.ofNat 66))), (.sc (.int .i64 (.ofNat 6))), (strL [58]), (.sc (.int .i64 (.ofNat 72))), (.sc (.int .i64 (.ofNat 2))), (strL [69, 85, 82]), (.sc (.int .i64 (.ofNat 74))), (.sc (.int .i64 (.ofNat 1))), (strL [101, 97, 114, 110]), (.sc (.int .i64 (.ofNat 78))), (.sc (.int .i64 (.ofNat 6))), (strL [59]), (.sc (.int .i64 (.ofNat 82))), (.sc (.int .i64 (.ofNat 1))), k3, (.sc (.int .i64 (.ofNat 84))), (.sc (.int .i64 (.ofNat 3))), (strL [49]), (.sc (.int .i64 (.ofNat 92))), (.sc (.int .i64 (.ofNat 1))), (strL [102, 111, 114]), (.sc (.int .i64 (.ofNat 94))), (.sc (.int .i64 (.ofNat 1))), (strL [98, 97, 115, 105, 99]), (.sc (.int .i64 (.ofNat 98))), (.sc (.int .i64 (.ofNat 1))), (strL [114, 97, 110, 107]), (.sc (.int .i64 (.ofNat 104))), (.sc (.int .i64 (.ofNat 3))), (strL [49]), (.sc (.int .i64 (.ofNat 109))), (.sc (.int .i64 (.ofNat 1))), (strL [102, 114, 111, 109]), (.sc (.int .i64 (.ofNat 111))), (.sc (.int .i64 (.ofNat 5))), k4, (.sc (.int .i64 (.ofNat 116))), (.sc (.int .i64 (.ofNat 1))), (strL [107, 110, 111, 119, 110]), (.sc (.int .i64 (.ofNat 127))), (.sc (.int .i64 (.ofNat 5))), k4, (.sc (.int .i64 (.ofNat 133))), (.sc (.int .i64 (.ofNat 6))), (strL [123]), (.sc (.int .i64 (.ofNat 144))), (.sc (.int .i64 (.ofNat 1))), (strL [97, 109, 111, 117, 110, 116]), (.sc (.int .i64 (.ofNat 146))), (.sc (.int .i64 (.ofNat 2))), (strL [69, 85, 82]), (.sc (.int .i64 (.ofNat 153))), (.sc (.int .i64 (.ofNat 4))), (strL [49, 46, 48, 48]), (.sc (.int .i64 (.ofNat 157))), (.sc (.int .i64 (.ofNat 6))), (strL [59]), (.sc (.int .i64 (.ofNat 161))), (.sc (.int .i64 (.ofNat 6))), (strL [125]), (.sc (.int .i64 (.ofNat 163))), (.sc (.int .i64 (.ofNat 1))), (strL [108, 105, 110, 101]), (.sc (.int .i64 (.ofNat 165))), (.sc (.int .i64 (.ofNat 1))), (strL [98, 97, 115, 105, 99]), (.sc (.int .i64 (.ofNat 170))), (.sc (.int .i64 (.ofNat 6))), (strL [58]), (.sc (.int .i64 (.ofNat 176))), (.sc (.int .i64 (.ofNat 1))), (strL [110, 117, 109, 98, 101, 114]), (.sc (.int .i64 (.ofNat 178))), (.sc (.int .i64 (.ofNat 1))), (strL [105, 110, 102, 111]), (.sc (.int .i64 (.ofNat 185))), (.sc (.int .i64 (.ofNat 6))), (strL [59]), (.sc (.int .i64 (.ofNat 189)))]
def k27 : AV := .sl .full 2 [(.sc (.int .i64 (.ofNat 12))), (strL [104, 111, 117, 114, 115]), (strL []), (.sc (.int .i64 (.ofNat 0))), (.sc (.int .i64 (.ofNat 0))), (.sc (.int .i64 (.ofNat 0))), (.sc (.int .i64 (.ofNat 0))), (.sc (.int .i64 (.ofNat 0))), (.sl .full 0 []), (.sl .full 0 []), (.sc (.int .i64 (.ofNat 0))), (.sc (.int .i64 (.ofNat 12))), (strL [114, 97, 116, 101]), (strL []), (.sc (.int .i64 (.ofNat 0))), (.sc (.int .i64 (.ofNat 0))), (.sc (.int .i64 (.ofNat 0))), (.sc (.int .i64 (.ofNat 0))), (.sc (.int .i64 (.ofNat 0))), (.sl .full 0 []), (.sl .full 0 []), (.sc (.int .i64 (.ofNat 9)))]
def k28 : AV := .sl .full 2 [(.sc (.int .i64 (.ofNat 16))), (strL [97, 116]), (strL []), (.sc (.int .i64 (.ofNat 0))), (.sc (.int .i64 (.ofNat 0))), (.sc (.int .i64 (.ofNat 0))), (.sc (.int .i64 (.ofNat 0))), (.sc (.int .i64 (.ofNat 0))), (.sl .full 0 []), k27, (.sc (.int .i64 (.ofNat 0))), (.sc (.int .i64 (.ofNat 13))), (strL []), (strL []), (.sc (.int .i64 (.ofNat 1))), (.sc (.int .i64 (.ofNat 0))), (.sc (.int .i64 (.ofNat 0))), (.sc (.int .i64 (.ofNat 0))), (.sc (.int .i64 (.ofNat 0))), (.sl .full 0 []), (.sl .full 0 []), (.sc (.int .i64 (.ofNat 16)))]
def k29 : AV := .sl .full 2 [(.sc (.int .i64 (.ofNat 11))), (strL []), k1, (.sc (.int .i64 (.ofNat 8))), (.sc (.int .i64 (.ofNat 0))), (.sc (.int .i64 (.ofNat 0))), (.sc (.int .i64 (.ofNat 0))), (.sc (.int .i64 (.ofNat 0))), (.sl .full 0 []), (.sl .full 0 []), (.sc (.int .i64 (.ofNat 8))), (.sc (.int .i64 (.ofNat 12))), (strL [104, 111, 117, 114, 115]), (strL []), (.sc (.int .i64 (.ofNat 0))), (.sc (.int .i64 (.ofNat 0))), (.sc (.int .i64 (.ofNat 0))), (.sc (.int .i64 (.ofNat 0))), (.sc (.int .i64 (.ofNat 0))), (.sl .full 0 []), (.sl .full 0 []), (.sc (.int .i64 (.ofNat 0)))]
def k30 : AV := .sl .full 2 [(.sc (.int .i64 (.ofNat 16))), (strL [60]), (strL []), (.sc (.int .i64 (.ofNat 0))), (.sc (.int .i64 (.ofNat 0))), (.sc (.int .i64 (.ofNat 0))), (.sc (.int .i64 (.ofNat 0))), (.sc (.int .i64 (.ofNat 0))), (.sl .full 0 []), k29, (.sc (.int .i64 (.ofNat 0))), (.sc (.int .i64 (.ofNat 12))), k2, (strL []), (.sc (.int .i64 (.ofNat 0))), (.sc (.int .i64 (.ofNat 0))), (.sc (.int .i64 (.ofNat 0))), (.sc (.int .i64 (.ofNat 0))), (.sc (.int .i64 (.ofNat 0))), (.sl .full 0 []), (.sl .full 0 []), (.sc (.int .i64 (.ofNat 18)))]
def k31 : AV := .sl .full 2 [(.sc (.int .i64 (.ofNat 12))), k2, (strL []), (.sc (.int .i64 (.ofNat 0))), (.sc (.int .i64 (.ofNat 0))), (.sc (.int .i64 (.ofNat 0))), (.sc (.int .i64 (.ofNat 0))), (.sc (.int .i64 (.ofNat 0))), (.sl .full 0 []), (.sl .full 0 []), (.sc (.int .i64 (.ofNat 4))), (.sc (.int .i64 (.ofNat 11))), (strL []), (strL [116, 114, 117, 116, 104]), (.sc (.int .i64 (.ofNat 1))), (.sc (.int .i64 (.ofNat 0))), (.sc (.int .i64 (.ofNat 0))), (.sc (.int .i64 (.ofNat 0))), (.sc (.int .i64 (.ofNat 0))), (.sl .full 0 []), (.sl .full 0 []), (.sc (.int .i64 (.ofNat 15)))]
def k32 : AV := .sl .full 1 [(.sc (.int .i64 (.ofNat 16))), (strL [61, 61]), (strL []), (.sc (.int .i64 (.ofNat 0))), (.sc (.int .i64 (.ofNat 0))), (.sc (.int .i64 (.ofNat 0))), (.sc (.int .i64 (.ofNat 0))), (.sc (.int .i64 (.ofNat 0))), (.sl .full 0 []), k31, (.sc (.int .i64 (.ofNat 4)))]
def k33 : AV := .sl .full 2 [(.sc (.int .i64 (.ofNat 12))), (strL [114, 97, 116, 101]), (strL []), (.sc (.int .i64 (.ofNat 0))), (.sc (.int .i64 (.ofNat 0))), (.sc (.int .i64 (.ofNat 0))), (.sc (.int .i64 (.ofNat 0))), (.sc (.int .i64 (.ofNat 0))), (.sl .full 0 []), (.sl .full 0 []), (.sc (.int .i64 (.ofNat 0))), (.sc (.int .i64 (.ofNat 11))), (strL []), (strL [110, 117, 109, 98, 101, 114]), (.sc (.int .i64 (.ofNat 3))), (.sc (.int .i64 (.ofNat 0))), (.sc (.int .i64 (.ofNat 0))), (.sc (.int .i64 (.ofNat 0))), (.sc (.int .i64 (.ofNat 0))), (.sl .full 0 []), (.sl .full 0 []), (.sc (.int .i64 (.ofNat 7)))]
def k34 : AV := .sl .full 2 [(.sc (.int .i64 (.ofNat 16))), (strL [42]), (strL []), (.sc (.int .i64 (.ofNat 0))), (.sc (.int .i64 (.ofNat 0))), (.sc (.int .i64 (.ofNat 0))), (.sc (.int .i64 (.ofNat 0))), (.sc (.int .i64 (.ofNat 0))), (.sl .full 0 []), k33, (.sc (.int .i64 (.ofNat 0))), (.sc (.int .i64 (.ofNat 11))), (strL []), (strL [110, 117, 109, 98, 101, 114]), (.sc (.int .i64 (.ofNat 100))), (.sc (.int .i64 (.ofNat 0))), (.sc (.int .i64 (.ofNat 0))), (.sc (.int .i64 (.ofNat 0))), (.sc (.int .i64 (.ofNat 0))), (.sl .full 0 []), (.sl .full 0 []), (.sc (.int .i64 (.ofNat 11)))]
def e0 : Ent := ⟨43, [k0], none, (.tup [k5, (.sc (.int .i64 (.ofNat 0))), (.sc (.int .i64 (.ofNat 0)))])⟩
theorem e0_ok {mx : Int} : EntOk Tryz.prog (HdU.G mx) e0 := HdU.lex_ent _ _ (by kernel_rfl)
def e1 : Ent := ⟨143, [(strL [49, 46, 48, 48]), (strL [46]), (strL []), (.sc (.int .i64 (.ofNat 1)))], none, (strL [49, 48, 48])⟩
theorem e1_ok {mx : Int} : EntOk Tryz.prog (HdU.G mx) e1 := HdU.repl_ent _ _ _ _ _ (by kernel_rfl) (by kernel_rfl) (by kernel_rfl)
def e2 : Ent := ⟨43, [k6], none, (.tup [k7, (.sc (.int .i64 (.ofNat 0))), (.sc (.int .i64 (.ofNat 0)))])⟩
theorem e2_ok {mx : Int} : EntOk Tryz.prog (HdU.G mx) e2 := HdU.lex_ent _ _ (by kernel_rfl)
def e3 : Ent := ⟨43, [k8], none, (.tup [k9, (.sc (.int .i64 (.ofNat 0))), (.sc (.int .i64 (.ofNat 0)))])⟩
theorem e3_ok {mx : Int} : EntOk Tryz.prog (HdU.G mx) e3 := HdU.lex_ent _ _ (by kernel_rfl)
def e4 : Ent := ⟨43, [k10], none, (.tup [k11, (.sc (.int .i64 (.ofNat 0))), (.sc (.int .i64 (.ofNat 0)))])⟩
theorem e4_ok {mx : Int} : EntOk Tryz.prog (HdU.G mx) e4 := HdU.lex_ent _ _ (by kernel_rfl)
def e5 : Ent := ⟨43, [k12], none, (.tup [k13, (.sc (.int .i64 (.ofNat 0))), (.sc (.int .i64 (.ofNat 0)))])⟩
theorem e5_ok {mx : Int} : EntOk Tryz.prog (HdU.G mx) e5 := HdU.lex_ent _ _ (by kernel_rfl)
def e6 : Ent := ⟨43, [k14], none, (.tup [k15, (.sc (.int .i64 (.ofNat 0))), (.sc (.int .i64 (.ofNat 0)))])⟩
theorem e6_ok {mx : Int} : EntOk Tryz.prog (HdU.G mx) e6 := HdU.lex_ent _ _ (by kernel_rfl)
def e7 : Ent := ⟨43, [k16], none, (.tup [k17, (.sc (.int .i64 (.ofNat 0))), (.sc (.int .i64 (.ofNat 0)))])⟩
theorem e7_ok {mx : Int} : EntOk Tryz.prog (HdU.G mx) e7 := HdU.lex_ent _ _ (by kernel_rfl)
def e8 : Ent := ⟨43, [k18], none, (.tup [k19, (.sc (.int .i64 (.ofNat 0))), (.sc (.int .i64 (.ofNat 0)))])⟩
theorem e8_ok {mx : Int} : EntOk Tryz.prog (HdU.G mx) e8 := HdU.lex_ent _ _ (by kernel_rfl)
def e9 : Ent := ⟨43, [(strL [120, 32, 43, 32, 49])], none, (.tup [k20, (.sc (.int .i64 (.ofNat 0))), (.sc (.int .i64 (.ofNat 0)))])⟩
theorem e9_ok {mx : Int} : EntOk Tryz.prog (HdU.G mx) e9 := HdU.lex_ent _ _ (by kernel_rfl)
def e10 : Ent := ⟨43, [(strL [97, 114, 116, 32, 50])], none, (.tup [(.sl .lost 2 [(.sc (.int .i64 (.ofNat 1))), (strL [97, 114, 116]), (.sc (.int .i64 (.ofNat 0))), (.sc (.int .i64 (.ofNat 3))), (strL [50]), (.sc (.int .i64 (.ofNat 4)))]), (.sc (.int .i64 (.ofNat 0))), (.sc (.int .i64 (.ofNat 0)))])⟩
theorem e10_ok {mx : Int} : EntOk Tryz.prog (HdU.G mx) e10 := HdU.lex_ent _ _ (by kernel_rfl)
def e11 : Ent := ⟨43, [k21], none, (.tup [k22, (.sc (.int .i64 (.ofNat 0))), (.sc (.int .i64 (.ofNat 0)))])⟩
theorem e11_ok {mx : Int} : EntOk Tryz.prog (HdU.G mx) e11 := HdU.lex_ent _ _ (by kernel_rfl)
def e12 : Ent := ⟨43, [k23], none, (.tup [k24, (.sc (.int .i64 (.ofNat 0))), (.sc (.int .i64 (.ofNat 0)))])⟩
theorem e12_ok {mx : Int} : EntOk Tryz.prog (HdU.G mx) e12 := HdU.lex_ent _ _ (by kernel_rfl)
def e13 : Ent := ⟨43, [k25], none, (.tup [k26, (.sc (.int .i64 (.ofNat 0))), (.sc (.int .i64 (.ofNat 0)))])⟩
theorem e13_ok {mx : Int} : EntOk Tryz.prog (HdU.G mx) e13 := HdU.lex_ent _ _ (by kernel_rfl)
def e14 : Ent := ⟨137, [(strL [48])], none, (.tup [(.sc (.int .i64 (.ofNat 0))), (.sc .nilIface)])⟩
theorem e14_ok {mx : Int} : EntOk Tryz.prog (HdU.G mx) e14 := HdU.atoi_ent _ _ (by kernel_rfl) (by kernel_rfl)
def e15 : Ent := ⟨137, [(strL [49])], none, (.tup [(.sc (.int .i64 (.ofNat 1))), (.sc .nilIface)])⟩
theorem e15_ok {mx : Int} : EntOk Tryz.prog (HdU.G mx) e15 := HdU.atoi_ent _ _ (by kernel_rfl) (by kernel_rfl)
def e16 : Ent := ⟨137, [(strL [49, 48])], none, (.tup [(.sc (.int .i64 (.ofNat 10))), (.sc .nilIface)])⟩
theorem e16_ok {mx : Int} : EntOk Tryz.prog (HdU.G mx) e16 := HdU.atoi_ent _ _ (by kernel_rfl) (by kernel_rfl)
def e17 : Ent := ⟨137, [(strL [49, 48, 48])], none, (.tup [(.sc (.int .i64 (.ofNat 100))), (.sc .nilIface)])⟩
theorem e17_ok {mx : Int} : EntOk Tryz.prog (HdU.G mx) e17 := HdU.atoi_ent _ _ (by kernel_rfl) (by kernel_rfl)
def e18 : Ent := ⟨137, [(strL [50])], none, (.tup [(.sc (.int .i64 (.ofNat 2))), (.sc .nilIface)])⟩
theorem e18_ok {mx : Int} : EntOk Tryz.prog (HdU.G mx) e18 := HdU.atoi_ent _ _ (by kernel_rfl) (by kernel_rfl)
def e19 : Ent := ⟨137, [(strL [51])], none, (.tup [(.sc (.int .i64 (.ofNat 3))), (.sc .nilIface)])⟩
theorem e19_ok {mx : Int} : EntOk Tryz.prog (HdU.G mx) e19 := HdU.atoi_ent _ _ (by kernel_rfl) (by kernel_rfl)
def e20 : Ent := ⟨137, [(strL [56])], none, (.tup [(.sc (.int .i64 (.ofNat 8))), (.sc .nilIface)])⟩
theorem e20_ok {mx : Int} : EntOk Tryz.prog (HdU.G mx) e20 := HdU.atoi_ent _ _ (by kernel_rfl) (by kernel_rfl)
def e21 : Ent := ⟨143, [(strL [62]), (strL [62]), (strL [60]), (.sc (.int .i64 (.ofNat 1)))], none, (strL [60])⟩
theorem e21_ok {mx : Int} : EntOk Tryz.prog (HdU.G mx) e21 := HdU.repl_ent _ _ _ _ _ (by kernel_rfl) (by kernel_rfl) (by kernel_rfl)
def e22 : Ent := ⟨143, [(strL [48]), (strL [46]), (strL []), (.sc (.int .i64 (.ofNat 1)))], none, (strL [48])⟩
theorem e22_ok {mx : Int} : EntOk Tryz.prog (HdU.G mx) e22 := HdU.repl_ent _ _ _ _ _ (by kernel_rfl) (by kernel_rfl) (by kernel_rfl)
def e23 : Ent := ⟨75, [], (some ([k7, (.sc (.int .i64 (.ofNat 0))), (.sc (.int .i64 (.ofNat 21)))], [k7, (.sc (.int .i64 (.ofNat 6))), (.sc (.int .i64 (.ofNat 21)))])), (.agg [(.sc (.int .i64 (.ofNat 16))), (strL [43]), (strL []), (.sc (.int .i64 (.ofNat 0))), (.sc (.int .i64 (.ofNat 0))), (.sc (.int .i64 (.ofNat 0))), (.sc (.int .i64 (.ofNat 0))), (.sc (.int .i64 (.ofNat 0))), (.sl .full 0 []), k28, (.sc (.int .i64 (.ofNat 0)))])⟩
theorem e23_ok {mx : Int} : EntOk Tryz.prog (HdU.G mx) e23 := HdU.entry (l := [e1, e14, e15, e16, e17, e18, e19, e20, e21, e22]) (m := 1000000) (AllOk.cons e1_ok (AllOk.cons e14_ok (AllOk.cons e15_ok (AllOk.cons e16_ok (AllOk.cons e17_ok (AllOk.cons e18_ok (AllOk.cons e19_ok (AllOk.cons e20_ok (AllOk.cons e21_ok (AllOk.cons e22_ok HdU.none)))))))))) (by kernel_rfl) (by kernel_rfl)
def e24 : Ent := ⟨47, [(.agg [(.sc (.int .i64 (.ofNat 16))), (strL [43]), (strL []), (.sc (.int .i64 (.ofNat 0))), (.sc (.int .i64 (.ofNat 0))), (.sc (.int .i64 (.ofNat 0))), (.sc (.int .i64 (.ofNat 0))), (.sc (.int .i64 (.ofNat 0))), (.sl .full 0 []), k28, (.sc (.int .i64 (.ofNat 0)))])], none, (.tup [(.agg [(.sc (.int .i64 (.ofNat 16))), (strL [43]), (strL []), (.sc (.int .i64 (.ofNat 0))), (.sc (.int .i64 (.ofNat 0))), (.sc (.int .i64 (.ofNat 0))), (.sc (.int .i64 (.ofNat 0))), (.sc (.int .i64 (.ofNat 0))), (.sl .full 0 []), k28, (.sc (.int .i64 (.ofNat 0)))]), (.sl .full 0 [])])⟩
theorem e24_ok {mx : Int} : EntOk Tryz.prog (HdU.G mx) e24 := HdU.entry (l := []) (m := 1000000) HdU.none (by kernel_rfl) (by kernel_rfl)
def e25 : Ent := ⟨48, [k6], none, (.tup [(.agg [(.sc (.int .i64 (.ofNat 16))), (strL [43]), (strL []), (.sc (.int .i64 (.ofNat 0))), (.sc (.int .i64 (.ofNat 0))), (.sc (.int .i64 (.ofNat 0))), (.sc (.int .i64 (.ofNat 0))), (.sc (.int .i64 (.ofNat 0))), (.sl .full 0 []), k28, (.sc (.int .i64 (.ofNat 0)))]), (.sl .full 0 [])])⟩
theorem e25_ok {mx : Int} : EntOk Tryz.prog (HdU.G mx) e25 := HdU.entry (l := [e2, e23, e24]) (m := 1000000) (AllOk.cons e2_ok (AllOk.cons e23_ok (AllOk.cons e24_ok HdU.none))) (by kernel_rfl) (by kernel_rfl)
def e26 : Ent := ⟨75, [], (some ([k9, (.sc (.int .i64 (.ofNat 0))), (.sc (.int .i64 (.ofNat 25)))], [k9, (.sc (.int .i64 (.ofNat 6))), (.sc (.int .i64 (.ofNat 25)))])), (.agg [(.sc (.int .i64 (.ofNat 16))), (strL [97, 110, 100]), (strL []), (.sc (.int .i64 (.ofNat 0))), (.sc (.int .i64 (.ofNat 0))), (.sc (.int .i64 (.ofNat 0))), (.sc (.int .i64 (.ofNat 0))), (.sc (.int .i64 (.ofNat 0))), (.sl .full 0 []), k30, (.sc (.int .i64 (.ofNat 0)))])⟩
theorem e26_ok {mx : Int} : EntOk Tryz.prog (HdU.G mx) e26 := HdU.entry (l := [e1, e14, e15, e16, e17, e18, e19, e20, e21, e22]) (m := 1000000) (AllOk.cons e1_ok (AllOk.cons e14_ok (AllOk.cons e15_ok (AllOk.cons e16_ok (AllOk.cons e17_ok (AllOk.cons e18_ok (AllOk.cons e19_ok (AllOk.cons e20_ok (AllOk.cons e21_ok (AllOk.cons e22_ok HdU.none)))))))))) (by kernel_rfl) (by kernel_rfl)
def e27 : Ent := ⟨47, [(.agg [(.sc (.int .i64 (.ofNat 16))), (strL [97, 110, 100]), (strL []), (.sc (.int .i64 (.ofNat 0))), (.sc (.int .i64 (.ofNat 0))), (.sc (.int .i64 (.ofNat 0))), (.sc (.int .i64 (.ofNat 0))), (.sc (.int .i64 (.ofNat 0))), (.sl .full 0 []), k30, (.sc (.int .i64 (.ofNat 0)))])], none, (.tup [(.agg [(.sc (.int .i64 (.ofNat 16))), (strL [97, 110, 100]), (strL []), (.sc (.int .i64 (.ofNat 0))), (.sc (.int .i64 (.ofNat 0))), (.sc (.int .i64 (.ofNat 0))), (.sc (.int .i64 (.ofNat 0))), (.sc (.int .i64 (.ofNat 0))), (.sl .full 0 []), k30, (.sc (.int .i64 (.ofNat 0)))]), (.sl .full 0 [])])⟩
theorem e27_ok {mx : Int} : EntOk Tryz.prog (HdU.G mx) e27 := HdU.entry (l := []) (m := 1000000) HdU.none (by kernel_rfl) (by kernel_rfl)
def e28 : Ent := ⟨48, [k8], none, (.tup [(.agg [(.sc (.int .i64 (.ofNat 16))), (strL [97, 110, 100]), (strL []), (.sc (.int .i64 (.ofNat 0))), (.sc (.int .i64 (.ofNat 0))), (.sc (.int .i64 (.ofNat 0))), (.sc (.int .i64 (.ofNat 0))), (.sc (.int .i64 (.ofNat 0))), (.sl .full 0 []), k30, (.sc (.int .i64 (.ofNat 0)))]), (.sl .full 0 [])])⟩
theorem e28_ok {mx : Int} : EntOk Tryz.prog (HdU.G mx) e28 := HdU.entry (l := [e3, e24, e26, e27]) (m := 1000000) (AllOk.cons e3_ok (AllOk.cons e24_ok (AllOk.cons e26_ok (AllOk.cons e27_ok HdU.none)))) (by kernel_rfl) (by kernel_rfl)
def e29 : Ent := ⟨75, [], (some ([k11, (.sc (.int .i64 (.ofNat 0))), (.sc (.int .i64 (.ofNat 19)))], [k11, (.sc (.int .i64 (.ofNat 4))), (.sc (.int .i64 (.ofNat 19)))])), (.agg [(.sc (.int .i64 (.ofNat 15))), (strL []), (strL []), (.sc (.int .i64 (.ofNat 0))), (.sc (.int .i64 (.ofNat 0))), (.sc (.int .i64 (.ofNat 0))), (.sc (.int .i64 (.ofNat 0))), (.sc (.int .i64 (.ofNat 0))), (.sl .full 0 []), k32, (.sc (.int .i64 (.ofNat 0)))])⟩
theorem e29_ok {mx : Int} : EntOk Tryz.prog (HdU.G mx) e29 := HdU.entry (l := [e1, e14, e15, e16, e17, e18, e19, e20, e21, e22]) (m := 1000000) (AllOk.cons e1_ok (AllOk.cons e14_ok (AllOk.cons e15_ok (AllOk.cons e16_ok (AllOk.cons e17_ok (AllOk.cons e18_ok (AllOk.cons e19_ok (AllOk.cons e20_ok (AllOk.cons e21_ok (AllOk.cons e22_ok HdU.none)))))))))) (by kernel_rfl) (by kernel_rfl)
def e30 : Ent := ⟨47, [(.agg [(.sc (.int .i64 (.ofNat 15))), (strL []), (strL []), (.sc (.int .i64 (.ofNat 0))), (.sc (.int .i64 (.ofNat 0))), (.sc (.int .i64 (.ofNat 0))), (.sc (.int .i64 (.ofNat 0))), (.sc (.int .i64 (.ofNat 0))), (.sl .full 0 []), k32, (.sc (.int .i64 (.ofNat 0)))])], none, (.tup [(.agg [(.sc (.int .i64 (.ofNat 15))), (strL []), (strL []), (.sc (.int .i64 (.ofNat 0))), (.sc (.int .i64 (.ofNat 0))), (.sc (.int .i64 (.ofNat 0))), (.sc (.int .i64 (.ofNat 0))), (.sc (.int .i64 (.ofNat 0))), (.sl .full 0 []), k32, (.sc (.int .i64 (.ofNat 0)))]), (.sl .full 0 [])])⟩
theorem e30_ok {mx : Int} : EntOk Tryz.prog (HdU.G mx) e30 := HdU.entry (l := []) (m := 1000000) HdU.none (by kernel_rfl) (by kernel_rfl)
def e31 : Ent := ⟨48, [k10], none, (.tup [(.agg [(.sc (.int .i64 (.ofNat 15))), (strL []), (strL []), (.sc (.int .i64 (.ofNat 0))), (.sc (.int .i64 (.ofNat 0))), (.sc (.int .i64 (.ofNat 0))), (.sc (.int .i64 (.ofNat 0))), (.sc (.int .i64 (.ofNat 0))), (.sl .full 0 []), k32, (.sc (.int .i64 (.ofNat 0)))]), (.sl .full 0 [])])⟩
theorem e31_ok {mx : Int} : EntOk Tryz.prog (HdU.G mx) e31 := HdU.entry (l := [e4, e24, e27, e29, e30]) (m := 1000000) (AllOk.cons e4_ok (AllOk.cons e24_ok (AllOk.cons e27_ok (AllOk.cons e29_ok (AllOk.cons e30_ok HdU.none))))) (by kernel_rfl) (by kernel_rfl)
def e32 : Ent := ⟨75, [], (some ([k13, (.sc (.int .i64 (.ofNat 0))), (.sc (.int .i64 (.ofNat 14)))], [k13, (.sc (.int .i64 (.ofNat 5))), (.sc (.int .i64 (.ofNat 14)))])), (.agg [(.sc (.int .i64 (.ofNat 16))), (strL [47]), (strL []), (.sc (.int .i64 (.ofNat 0))), (.sc (.int .i64 (.ofNat 0))), (.sc (.int .i64 (.ofNat 0))), (.sc (.int .i64 (.ofNat 0))), (.sc (.int .i64 (.ofNat 0))), (.sl .full 0 []), k34, (.sc (.int .i64 (.ofNat 0)))])⟩
theorem e32_ok {mx : Int} : EntOk Tryz.prog (HdU.G mx) e32 := HdU.entry (l := [e1, e14, e15, e16, e17, e18, e19, e20, e21, e22]) (m := 1000000) (AllOk.cons e1_ok (AllOk.cons e14_ok (AllOk.cons e15_ok (AllOk.cons e16_ok (AllOk.cons e17_ok (AllOk.cons e18_ok (AllOk.cons e19_ok (AllOk.cons e20_ok (AllOk.cons e21_ok (AllOk.cons e22_ok HdU.none)))))))))) (by kernel_rfl) (by kernel_rfl)
end Go.Proofs.YtkfplcngmiljaaaGreatDoor
namespace Go.Proofs.YtkfplcngmiljaaaGreatDoor
open AI
set_option maxRecDepth 100000
set_option maxHeartbeats 4000000
def k35 : AV := .sl .full 2 [(.sc (.int .i64 (.ofNat 11))), (strL []), (strL [110, 117, 109, 98, 101, 114]), (.sc (.int .i64 (.ofNat 2))), (.sc (.int .i64 (.ofNat 0))), (.sc (.int .i64 (.ofNat 0))), (.sc (.int .i64 (.ofNat 0))), (.sc (.int .i64 (.ofNat 0))), (.sl .full 0 []), (.sl .full 0 []), (.sc (.int .i64 (.ofNat 0))), (.sc (.int .i64 (.ofNat 12))), (strL [104, 111, 117, 114, 115]), (strL []), (.sc (.int .i64 (.ofNat 0))), (.sc (.int .i64 (.ofNat 0))), (.sc (.int .i64 (.ofNat 0))), (.sc (.int .i64 (.ofNat 0))), (.sc (.int .i64 (.ofNat 0))), (.sl .full 0 []), (.sl .full 0 []), (.sc (.int .i64 (.ofNat 4)))]
def k36 : AV := .sl .full 2 [(.sc (.int .i64 (.ofNat 12))), (strL [114, 97, 116, 101]), (strL []), (.sc (.int .i64 (.ofNat 0))), (.sc (.int .i64 (.ofNat 0))), (.sc (.int .i64 (.ofNat 0))), (.sc (.int .i64 (.ofNat 0))), (.sc (.int .i64 (.ofNat 0))), (.sl .full 0 []), (.sl .full 0 []), (.sc (.int .i64 (.ofNat 0))), (.sc (.int .i64 (.ofNat 12))), (strL [114, 97, 116, 101]), (strL []), (.sc (.int .i64 (.ofNat 0))), (.sc (.int .i64 (.ofNat 0))), (.sc (.int .i64 (.ofNat 0))), (.sc (.int .i64 (.ofNat 0))), (.sc (.int .i64 (.ofNat 0))), (.sl .full 0 []), (.sl .full 0 []), (.sc (.int .i64 (.ofNat 7)))]
def k37 : AV := .sl .full 2 [(.sc (.int .i64 (.ofNat 12))), (strL [104, 111, 117, 114, 115]), (strL []), (.sc (.int .i64 (.ofNat 0))), (.sc (.int .i64 (.ofNat 0))), (.sc (.int .i64 (.ofNat 0))), (.sc (.int .i64 (.ofNat 0))), (.sc (.int .i64 (.ofNat 0))), (.sl .full 0 []), (.sl .full 0 []), (.sc (.int .i64 (.ofNat 0))), (.sc (.int .i64 (.ofNat 11))), (strL []), (strL [110, 117, 109, 98, 101, 114]), (.sc (.int .i64 (.ofNat 1))), (.sc (.int .i64 (.ofNat 0))), (.sc (.int .i64 (.ofNat 0))), (.sc (.int .i64 (.ofNat 0))), (.sc (.int .i64 (.ofNat 0))), (.sl .full 0 []), (.sl .full 0 []), (.sc (.int .i64 (.ofNat 8)))]
def k38 : AV := .sl .full 2 [(.sc (.int .i64 (.ofNat 12))), (strL [120]), (strL []), (.sc (.int .i64 (.ofNat 0))), (.sc (.int .i64 (.ofNat 0))), (.sc (.int .i64 (.ofNat 0))), (.sc (.int .i64 (.ofNat 0))), (.sc (.int .i64 (.ofNat 0))), (.sl .full 0 []), (.sl .full 0 []), (.sc (.int .i64 (.ofNat 0))), (.sc (.int .i64 (.ofNat 11))), (strL []), (strL [110, 117, 109, 98, 101, 114]), (.sc (.int .i64 (.ofNat 1))), (.sc (.int .i64 (.ofNat 0))), (.sc (.int .i64 (.ofNat 0))), (.sc (.int .i64 (.ofNat 0))), (.sc (.int .i64 (.ofNat 0))), (.sl .full 0 []), (.sl .full 0 []), (.sc (.int .i64 (.ofNat 4)))]
def k39 : AV := .sl .full 1 [(.sc (.int .i64 (.ofNat 12))), (strL [104, 111, 117, 114, 115]), (strL []), (.sc (.int .i64 (.ofNat 0))), (.sc (.int .i64 (.ofNat 0))), (.sc (.int .i64 (.ofNat 0))), (.sc (.int .i64 (.ofNat 0))), (.sc (.int .i64 (.ofNat 0))), (.sl .full 0 []), (.sl .full 0 []), (.sc (.int .i64 (.ofNat 6)))]
def e33 : Ent := ⟨47, [(.agg [(.sc (.int .i64 (.ofNat 16))), (strL [47]), (strL []), (.sc (.int .i64 (.ofNat 0))), (.sc (.int .i64 (.ofNat 0))), (.sc (.int .i64 (.ofNat 0))), (.sc (.int .i64 (.ofNat 0))), (.sc (.int .i64 (.ofNat 0))), (.sl .full 0 []), k34, (.sc (.int .i64 (.ofNat 0)))])], none, (.tup [(.agg [(.sc (.int .i64 (.ofNat 16))), (strL [47]), (strL []), (.sc (.int .i64 (.ofNat 0))), (.sc (.int .i64 (.ofNat 0))), (.sc (.int .i64 (.ofNat 0))), (.sc (.int .i64 (.ofNat 0))), (.sc (.int .i64 (.ofNat 0))), (.sl .full 0 []), k34, (.sc (.int .i64 (.ofNat 0)))]), (.sl .full 0 [])])⟩
theorem e33_ok {mx : Int} : EntOk Tryz.prog (HdU.G mx) e33 := HdU.entry (l := []) (m := 1000000) HdU.none (by kernel_rfl) (by kernel_rfl)
def e34 : Ent := ⟨48, [k12], none, (.tup [(.agg [(.sc (.int .i64 (.ofNat 16))), (strL [47]), (strL []), (.sc (.int .i64 (.ofNat 0))), (.sc (.int .i64 (.ofNat 0))), (.sc (.int .i64 (.ofNat 0))), (.sc (.int .i64 (.ofNat 0))), (.sc (.int .i64 (.ofNat 0))), (.sl .full 0 []), k34, (.sc (.int .i64 (.ofNat 0)))]), (.sl .full 0 [])])⟩
theorem e34_ok {mx : Int} : EntOk Tryz.prog (HdU.G mx) e34 := HdU.entry (l := [e5, e24, e27, e30, e32, e33]) (m := 1000000) (AllOk.cons e5_ok (AllOk.cons e24_ok (AllOk.cons e27_ok (AllOk.cons e30_ok (AllOk.cons e32_ok (AllOk.cons e33_ok HdU.none)))))) (by kernel_rfl) (by kernel_rfl)
def e35 : Ent := ⟨75, [], (some ([k15, (.sc (.int .i64 (.ofNat 0))), (.sc (.int .i64 (.ofNat 9)))], [k15, (.sc (.int .i64 (.ofNat 3))), (.sc (.int .i64 (.ofNat 9)))])), (.agg [(.sc (.int .i64 (.ofNat 16))), (strL [42]), (strL []), (.sc (.int .i64 (.ofNat 0))), (.sc (.int .i64 (.ofNat 0))), (.sc (.int .i64 (.ofNat 0))), (.sc (.int .i64 (.ofNat 0))), (.sc (.int .i64 (.ofNat 0))), (.sl .full 0 []), k35, (.sc (.int .i64 (.ofNat 0)))])⟩
theorem e35_ok {mx : Int} : EntOk Tryz.prog (HdU.G mx) e35 := HdU.entry (l := [e1, e14, e15, e16, e17, e18, e19, e20, e21, e22]) (m := 1000000) (AllOk.cons e1_ok (AllOk.cons e14_ok (AllOk.cons e15_ok (AllOk.cons e16_ok (AllOk.cons e17_ok (AllOk.cons e18_ok (AllOk.cons e19_ok (AllOk.cons e20_ok (AllOk.cons e21_ok (AllOk.cons e22_ok HdU.none)))))))))) (by kernel_rfl) (by kernel_rfl)
def e36 : Ent := ⟨47, [(.agg [(.sc (.int .i64 (.ofNat 16))), (strL [42]), (strL []), (.sc (.int .i64 (.ofNat 0))), (.sc (.int .i64 (.ofNat 0))), (.sc (.int .i64 (.ofNat 0))), (.sc (.int .i64 (.ofNat 0))), (.sc (.int .i64 (.ofNat 0))), (.sl .full 0 []), k35, (.sc (.int .i64 (.ofNat 0)))])], none, (.tup [(.agg [(.sc (.int .i64 (.ofNat 16))), (strL [42]), (strL []), (.sc (.int .i64 (.ofNat 0))), (.sc (.int .i64 (.ofNat 0))), (.sc (.int .i64 (.ofNat 0))), (.sc (.int .i64 (.ofNat 0))), (.sc (.int .i64 (.ofNat 0))), (.sl .full 0 []), k35, (.sc (.int .i64 (.ofNat 0)))]), (.sl .full 0 [])])⟩
theorem e36_ok {mx : Int} : EntOk Tryz.prog (HdU.G mx) e36 := HdU.entry (l := []) (m := 1000000) HdU.none (by kernel_rfl) (by kernel_rfl)
def e37 : Ent := ⟨48, [k14], none, (.tup [(.agg [(.sc (.int .i64 (.ofNat 16))), (strL [42]), (strL []), (.sc (.int .i64 (.ofNat 0))), (.sc (.int .i64 (.ofNat 0))), (.sc (.int .i64 (.ofNat 0))), (.sc (.int .i64 (.ofNat 0))), (.sc (.int .i64 (.ofNat 0))), (.sl .full 0 []), k35, (.sc (.int .i64 (.ofNat 0)))]), (.sl .full 0 [])])⟩
theorem e37_ok {mx : Int} : EntOk Tryz.prog (HdU.G mx) e37 := HdU.entry (l := [e6, e24, e27, e30, e33, e35, e36]) (m := 1000000) (AllOk.cons e6_ok (AllOk.cons e24_ok (AllOk.cons e27_ok (AllOk.cons e30_ok (AllOk.cons e33_ok (AllOk.cons e35_ok (AllOk.cons e36_ok HdU.none))))))) (by kernel_rfl) (by kernel_rfl)
def e38 : Ent := ⟨75, [], (some ([k17, (.sc (.int .i64 (.ofNat 0))), (.sc (.int .i64 (.ofNat 11)))], [k17, (.sc (.int .i64 (.ofNat 3))), (.sc (.int .i64 (.ofNat 11)))])), (.agg [(.sc (.int .i64 (.ofNat 16))), (strL [42]), (strL []), (.sc (.int .i64 (.ofNat 0))), (.sc (.int .i64 (.ofNat 0))), (.sc (.int .i64 (.ofNat 0))), (.sc (.int .i64 (.ofNat 0))), (.sc (.int .i64 (.ofNat 0))), (.sl .full 0 []), k36, (.sc (.int .i64 (.ofNat 0)))])⟩
theorem e38_ok {mx : Int} : EntOk Tryz.prog (HdU.G mx) e38 := HdU.entry (l := [e1, e14, e15, e16, e17, e18, e19, e20, e21, e22]) (m := 1000000) (AllOk.cons e1_ok (AllOk.cons e14_ok (AllOk.cons e15_ok (AllOk.cons e16_ok (AllOk.cons e17_ok (AllOk.cons e18_ok (AllOk.cons e19_ok (AllOk.cons e20_ok (AllOk.cons e21_ok (AllOk.cons e22_ok HdU.none)))))))))) (by kernel_rfl) (by kernel_rfl)
def e39 : Ent := ⟨47, [(.agg [(.sc (.int .i64 (.ofNat 16))), (strL [42]), (strL []), (.sc (.int .i64 (.ofNat 0))), (.sc (.int .i64 (.ofNat 0))), (.sc (.int .i64 (.ofNat 0))), (.sc (.int .i64 (.ofNat 0))), (.sc (.int .i64 (.ofNat 0))), (.sl .full 0 []), k36, (.sc (.int .i64 (.ofNat 0)))])], none, (.tup [(.agg [(.sc (.int .i64 (.ofNat 16))), (strL [42]), (strL []), (.sc (.int .i64 (.ofNat 0))), (.sc (.int .i64 (.ofNat 0))), (.sc (.int .i64 (.ofNat 0))), (.sc (.int .i64 (.ofNat 0))), (.sc (.int .i64 (.ofNat 0))), (.sl .full 0 []), k36, (.sc (.int .i64 (.ofNat 0)))]), (.sl .full 0 [])])⟩
theorem e39_ok {mx : Int} : EntOk Tryz.prog (HdU.G mx) e39 := HdU.entry (l := []) (m := 1000000) HdU.none (by kernel_rfl) (by kernel_rfl)
def e40 : Ent := ⟨48, [k16], none, (.tup [(.agg [(.sc (.int .i64 (.ofNat 16))), (strL [42]), (strL []), (.sc (.int .i64 (.ofNat 0))), (.sc (.int .i64 (.ofNat 0))), (.sc (.int .i64 (.ofNat 0))), (.sc (.int .i64 (.ofNat 0))), (.sc (.int .i64 (.ofNat 0))), (.sl .full 0 []), k36, (.sc (.int .i64 (.ofNat 0)))]), (.sl .full 0 [])])⟩
theorem e40_ok {mx : Int} : EntOk Tryz.prog (HdU.G mx) e40 := HdU.entry (l := [e7, e24, e27, e30, e33, e36, e38, e39]) (m := 1000000) (AllOk.cons e7_ok (AllOk.cons e24_ok (AllOk.cons e27_ok (AllOk.cons e30_ok (AllOk.cons e33_ok (AllOk.cons e36_ok (AllOk.cons e38_ok (AllOk.cons e39_ok HdU.none)))))))) (by kernel_rfl) (by kernel_rfl)
def e41 : Ent := ⟨75, [], (some ([k19, (.sc (.int .i64 (.ofNat 0))), (.sc (.int .i64 (.ofNat 9)))], [k19, (.sc (.int .i64 (.ofNat 3))), (.sc (.int .i64 (.ofNat 9)))])), (.agg [(.sc (.int .i64 (.ofNat 16))), (strL [43]), (strL []), (.sc (.int .i64 (.ofNat 0))), (.sc (.int .i64 (.ofNat 0))), (.sc (.int .i64 (.ofNat 0))), (.sc (.int .i64 (.ofNat 0))), (.sc (.int .i64 (.ofNat 0))), (.sl .full 0 []), k37, (.sc (.int .i64 (.ofNat 0)))])⟩
theorem e41_ok {mx : Int} : EntOk Tryz.prog (HdU.G mx) e41 := HdU.entry (l := [e1, e14, e15, e16, e17, e18, e19, e20, e21, e22]) (m := 1000000) (AllOk.cons e1_ok (AllOk.cons e14_ok (AllOk.cons e15_ok (AllOk.cons e16_ok (AllOk.cons e17_ok (AllOk.cons e18_ok (AllOk.cons e19_ok (AllOk.cons e20_ok (AllOk.cons e21_ok (AllOk.cons e22_ok HdU.none)))))))))) (by kernel_rfl) (by kernel_rfl)
def e42 : Ent := ⟨47, [(.agg [(.sc (.int .i64 (.ofNat 16))), (strL [43]), (strL []), (.sc (.int .i64 (.ofNat 0))), (.sc (.int .i64 (.ofNat 0))), (.sc (.int .i64 (.ofNat 0))), (.sc (.int .i64 (.ofNat 0))), (.sc (.int .i64 (.ofNat 0))), (.sl .full 0 []), k37, (.sc (.int .i64 (.ofNat 0)))])], none, (.tup [(.agg [(.sc (.int .i64 (.ofNat 16))), (strL [43]), (strL []), (.sc (.int .i64 (.ofNat 0))), (.sc (.int .i64 (.ofNat 0))), (.sc (.int .i64 (.ofNat 0))), (.sc (.int .i64 (.ofNat 0))), (.sc (.int .i64 (.ofNat 0))), (.sl .full 0 []), k37, (.sc (.int .i64 (.ofNat 0)))]), (.sl .full 0 [])])⟩
theorem e42_ok {mx : Int} : EntOk Tryz.prog (HdU.G mx) e42 := HdU.entry (l := []) (m := 1000000) HdU.none (by kernel_rfl) (by kernel_rfl)
def e43 : Ent := ⟨48, [k18], none, (.tup [(.agg [(.sc (.int .i64 (.ofNat 16))), (strL [43]), (strL []), (.sc (.int .i64 (.ofNat 0))), (.sc (.int .i64 (.ofNat 0))), (.sc (.int .i64 (.ofNat 0))), (.sc (.int .i64 (.ofNat 0))), (.sc (.int .i64 (.ofNat 0))), (.sl .full 0 []), k37, (.sc (.int .i64 (.ofNat 0)))]), (.sl .full 0 [])])⟩
theorem e43_ok {mx : Int} : EntOk Tryz.prog (HdU.G mx) e43 := HdU.entry (l := [e8, e24, e27, e30, e33, e36, e39, e41, e42]) (m := 1000000) (AllOk.cons e8_ok (AllOk.cons e24_ok (AllOk.cons e27_ok (AllOk.cons e30_ok (AllOk.cons e33_ok (AllOk.cons e36_ok (AllOk.cons e39_ok (AllOk.cons e41_ok (AllOk.cons e42_ok HdU.none))))))))) (by kernel_rfl) (by kernel_rfl)
def e44 : Ent := ⟨75, [], (some ([k20, (.sc (.int .i64 (.ofNat 0))), (.sc (.int .i64 (.ofNat 5)))], [k20, (.sc (.int .i64 (.ofNat 3))), (.sc (.int .i64 (.ofNat 5)))])), (.agg [(.sc (.int .i64 (.ofNat 16))), (strL [43]), (strL []), (.sc (.int .i64 (.ofNat 0))), (.sc (.int .i64 (.ofNat 0))), (.sc (.int .i64 (.ofNat 0))), (.sc (.int .i64 (.ofNat 0))), (.sc (.int .i64 (.ofNat 0))), (.sl .full 0 []), k38, (.sc (.int .i64 (.ofNat 0)))])⟩
theorem e44_ok {mx : Int} : EntOk Tryz.prog (HdU.G mx) e44 := HdU.entry (l := [e1, e14, e15, e16, e17, e18, e19, e20, e21, e22]) (m := 1000000) (AllOk.cons e1_ok (AllOk.cons e14_ok (AllOk.cons e15_ok (AllOk.cons e16_ok (AllOk.cons e17_ok (AllOk.cons e18_ok (AllOk.cons e19_ok (AllOk.cons e20_ok (AllOk.cons e21_ok (AllOk.cons e22_ok HdU.none)))))))))) (by kernel_rfl) (by kernel_rfl)
def e45 : Ent := ⟨47, [(.agg [(.sc (.int .i64 (.ofNat 16))), (strL [43]), (strL []), (.sc (.int .i64 (.ofNat 0))), (.sc (.int .i64 (.ofNat 0))), (.sc (.int .i64 (.ofNat 0))), (.sc (.int .i64 (.ofNat 0))), (.sc (.int .i64 (.ofNat 0))), (.sl .full 0 []), k38, (.sc (.int .i64 (.ofNat 0)))])], none, (.tup [(.agg [(.sc (.int .i64 (.ofNat 16))), (strL [43]), (strL []), (.sc (.int .i64 (.ofNat 0))), (.sc (.int .i64 (.ofNat 0))), (.sc (.int .i64 (.ofNat 0))), (.sc (.int .i64 (.ofNat 0))), (.sc (.int .i64 (.ofNat 0))), (.sl .full 0 []), k38, (.sc (.int .i64 (.ofNat 0)))]), (.sl .full 0 [])])⟩
theorem e45_ok {mx : Int} : EntOk Tryz.prog (HdU.G mx) e45 := HdU.entry (l := []) (m := 1000000) HdU.none (by kernel_rfl) (by kernel_rfl)
def e46 : Ent := ⟨48, [(strL [120, 32, 43, 32, 49])], none, (.tup [(.agg [(.sc (.int .i64 (.ofNat 16))), (strL [43]), (strL []), (.sc (.int .i64 (.ofNat 0))), (.sc (.int .i64 (.ofNat 0))), (.sc (.int .i64 (.ofNat 0))), (.sc (.int .i64 (.ofNat 0))), (.sc (.int .i64 (.ofNat 0))), (.sl .full 0 []), k38, (.sc (.int .i64 (.ofNat 0)))]), (.sl .full 0 [])])⟩
theorem e46_ok {mx : Int} : EntOk Tryz.prog (HdU.G mx) e46 := HdU.entry (l := [e9, e24, e27, e30, e33, e36, e39, e42, e44, e45]) (m := 1000000) (AllOk.cons e9_ok (AllOk.cons e24_ok (AllOk.cons e27_ok (AllOk.cons e30_ok (AllOk.cons e33_ok (AllOk.cons e36_ok (AllOk.cons e39_ok (AllOk.cons e42_ok (AllOk.cons e44_ok (AllOk.cons e45_ok HdU.none)))))))))) (by kernel_rfl) (by kernel_rfl)
def e47 : Ent := ⟨75, [], (some ([(.sl .lost 2 [(.sc (.int .i64 (.ofNat 1))), (strL [97, 114, 116]), (.sc (.int .i64 (.ofNat 0))), (.sc (.int .i64 (.ofNat 3))), (strL [50]), (.sc (.int .i64 (.ofNat 4)))]), (.sc (.int .i64 (.ofNat 0))), (.sc (.int .i64 (.ofNat 5)))], [(.sl .lost 2 [(.sc (.int .i64 (.ofNat 1))), (strL [97, 114, 116]), (.sc (.int .i64 (.ofNat 0))), (.sc (.int .i64 (.ofNat 3))), (strL [50]), (.sc (.int .i64 (.ofNat 4)))]), (.sc (.int .i64 (.ofNat 2))), (.sc (.int .i64 (.ofNat 5)))])), (.agg [(.sc (.int .i64 (.ofNat 13))), (strL []), (strL []), (.sc (.int .i64 (.ofNat 2))), (.sc (.int .i64 (.ofNat 0))), (.sc (.int .i64 (.ofNat 0))), (.sc (.int .i64 (.ofNat 0))), (.sc (.int .i64 (.ofNat 0))), (.sl .full 0 []), (.sl .full 0 []), (.sc (.int .i64 (.ofNat 0)))])⟩
theorem e47_ok {mx : Int} : EntOk Tryz.prog (HdU.G mx) e47 := HdU.entry (l := [e1, e14, e15, e16, e17, e18, e19, e20, e21, e22]) (m := 1000000) (AllOk.cons e1_ok (AllOk.cons e14_ok (AllOk.cons e15_ok (AllOk.cons e16_ok (AllOk.cons e17_ok (AllOk.cons e18_ok (AllOk.cons e19_ok (AllOk.cons e20_ok (AllOk.cons e21_ok (AllOk.cons e22_ok HdU.none)))))))))) (by kernel_rfl) (by kernel_rfl)
def e48 : Ent := ⟨47, [(.agg [(.sc (.int .i64 (.ofNat 13))), (strL []), (strL []), (.sc (.int .i64 (.ofNat 2))), (.sc (.int .i64 (.ofNat 0))), (.sc (.int .i64 (.ofNat 0))), (.sc (.int .i64 (.ofNat 0))), (.sc (.int .i64 (.ofNat 0))), (.sl .full 0 []), (.sl .full 0 []), (.sc (.int .i64 (.ofNat 0)))])], none, (.tup [(.agg [(.sc (.int .i64 (.ofNat 13))), (strL []), (strL []), (.sc (.int .i64 (.ofNat 2))), (.sc (.int .i64 (.ofNat 0))), (.sc (.int .i64 (.ofNat 0))), (.sc (.int .i64 (.ofNat 0))), (.sc (.int .i64 (.ofNat 0))), (.sl .full 0 []), (.sl .full 0 []), (.sc (.int .i64 (.ofNat 0)))]), (.sl .full 0 [])])⟩
theorem e48_ok {mx : Int} : EntOk Tryz.prog (HdU.G mx) e48 := HdU.entry (l := []) (m := 1000000) HdU.none (by kernel_rfl) (by kernel_rfl)
def e49 : Ent := ⟨48, [(strL [97, 114, 116, 32, 50])], none, (.tup [(.agg [(.sc (.int .i64 (.ofNat 13))), (strL []), (strL []), (.sc (.int .i64 (.ofNat 2))), (.sc (.int .i64 (.ofNat 0))), (.sc (.int .i64 (.ofNat 0))), (.sc (.int .i64 (.ofNat 0))), (.sc (.int .i64 (.ofNat 0))), (.sl .full 0 []), (.sl .full 0 []), (.sc (.int .i64 (.ofNat 0)))]), (.sl .full 0 [])])⟩
theorem e49_ok {mx : Int} : EntOk Tryz.prog (HdU.G mx) e49 := HdU.entry (l := [e10, e24, e27, e30, e33, e36, e39, e42, e45, e47, e48]) (m := 1000000) (AllOk.cons e10_ok (AllOk.cons e24_ok (AllOk.cons e27_ok (AllOk.cons e30_ok (AllOk.cons e33_ok (AllOk.cons e36_ok (AllOk.cons e39_ok (AllOk.cons e42_ok (AllOk.cons e45_ok (AllOk.cons e47_ok (AllOk.cons e48_ok HdU.none))))))))))) (by kernel_rfl) (by kernel_rfl)
def e50 : Ent := ⟨75, [], (some ([k22, (.sc (.int .i64 (.ofNat 0))), (.sc (.int .i64 (.ofNat 26)))], [k22, (.sc (.int .i64 (.ofNat 12))), (.sc (.int .i64 (.ofNat 26)))])), (.agg [(.sc (.int .i64 (.ofNat 18))), (strL []), (strL []), (.sc (.int .i64 (.ofNat 0))), (.sc (.int .i64 (.ofNat 0))), (.sc (.int .i64 (.ofNat 0))), (.sc (.int .i64 (.ofNat 0))), (.sc (.int .i64 (.ofNat 10))), (.sl .lost 1 [(.sc (.int .i64 (.ofNat 0))), (.sc (.int .i64 (.ofNat 0))), (.sc (.int .i64 (.ofNat 1)))]), k39, (.sc (.int .i64 (.ofNat 0)))])⟩
theorem e50_ok {mx : Int} : EntOk Tryz.prog (HdU.G mx) e50 := HdU.entry (l := [e1, e14, e15, e16, e17, e18, e19, e20, e21, e22]) (m := 1000000) (AllOk.cons e1_ok (AllOk.cons e14_ok (AllOk.cons e15_ok (AllOk.cons e16_ok (AllOk.cons e17_ok (AllOk.cons e18_ok (AllOk.cons e19_ok (AllOk.cons e20_ok (AllOk.cons e21_ok (AllOk.cons e22_ok HdU.none)))))))))) (by kernel_rfl) (by kernel_rfl)
def e51 : Ent := ⟨47, [(.agg [(.sc (.int .i64 (.ofNat 18))), (strL []), (strL []), (.sc (.int .i64 (.ofNat 0))), (.sc (.int .i64 (.ofNat 0))), (.sc (.int .i64 (.ofNat 0))), (.sc (.int .i64 (.ofNat 0))), (.sc (.int .i64 (.ofNat 10))), (.sl .lost 1 [(.sc (.int .i64 (.ofNat 0))), (.sc (.int .i64 (.ofNat 0))), (.sc (.int .i64 (.ofNat 1)))]), k39, (.sc (.int .i64 (.ofNat 0)))])], none, (.tup [(.agg [(.sc (.int .i64 (.ofNat 18))), (strL []), (strL []), (.sc (.int .i64 (.ofNat 0))), (.sc (.int .i64 (.ofNat 0))), (.sc (.int .i64 (.ofNat 0))), (.sc (.int .i64 (.ofNat 0))), (.sc (.int .i64 (.ofNat 10))), (.sl .lost 1 [(.sc (.int .i64 (.ofNat 0))), (.sc (.int .i64 (.ofNat 0))), (.sc (.int .i64 (.ofNat 1)))]), k39, (.sc (.int .i64 (.ofNat 0)))]), (.sl .full 0 [])])⟩
theorem e51_ok {mx : Int} : EntOk Tryz.prog (HdU.G mx) e51 := HdU.entry (l := []) (m := 1000000) HdU.none (by kernel_rfl) (by kernel_rfl)
def e52 : Ent := ⟨48, [k21], none, (.tup [(.agg [(.sc (.int .i64 (.ofNat 18))), (strL []), (strL []), (.sc (.int .i64 (.ofNat 0))), (.sc (.int .i64 (.ofNat 0))), (.sc (.int .i64 (.ofNat 0))), (.sc (.int .i64 (.ofNat 0))), (.sc (.int .i64 (.ofNat 10))), (.sl .lost 1 [(.sc (.int .i64 (.ofNat 0))), (.sc (.int .i64 (.ofNat 0))), (.sc (.int .i64 (.ofNat 1)))]), k39, (.sc (.int .i64 (.ofNat 0)))]), (.sl .full 0 [])])⟩
theorem e52_ok {mx : Int} : EntOk Tryz.prog (HdU.G mx) e52 := HdU.entry (l := [e11, e24, e27, e30, e33, e36, e39, e42, e45, e48, e50, e51]) (m := 1000000) (AllOk.cons e11_ok (AllOk.cons e24_ok (AllOk.cons e27_ok (AllOk.cons e30_ok (AllOk.cons e33_ok (AllOk.cons e36_ok (AllOk.cons e39_ok (AllOk.cons e42_ok (AllOk.cons e45_ok (AllOk.cons e48_ok (AllOk.cons e50_ok (AllOk.cons e51_ok HdU.none)))))))))))) (by kernel_rfl) (by kernel_rfl)
end Go.Proofs.YtkfplcngmiljaaaGreatDoor
namespace Go.Proofs.YtkfplcngmiljaaaGreatDoor
open AI
set_option maxRecDepth 100000
set_option maxHeartbeats 4000000
def k40 : AV := .sl .lost 2 [(.sc (.int .i64 (.ofNat 12))), (strL [114, 97, 116, 101]), (strL []), (.sc (.int .i64 (.ofNat 0))), (.sc (.int .i64 (.ofNat 0))), (.sc (.int .i64 (.ofNat 0))), (.sc (.int .i64 (.ofNat 0))), (.sc (.int .i64 (.ofNat 0))), (.sl .full 0 []), (.sl .full 0 []), (.sc (.int .i64 (.ofNat 6))), (.sc (.int .i64 (.ofNat 11))), (strL []), (strL [69, 85, 82]), (.sc (.int .i64 (.ofNat 100))), (.sc (.int .i64 (.ofNat 0))), (.sc (.int .i64 (.ofNat 0))), (.sc (.int .i64 (.ofNat 0))), (.sc (.int .i64 (.ofNat 0))), (.sl .full 0 []), (.sl .full 0 []), (.sc (.int .i64 (.ofNat 12)))]
def k41 : AV := .sl .full 1 [(.sc (.int .i64 (.ofNat 11))), (strL []), (strL [69, 85, 82]), (.sc (.int .i64 (.ofNat 100))), (.sc (.int .i64 (.ofNat 0))), (.sc (.int .i64 (.ofNat 0))), (.sc (.int .i64 (.ofNat 0))), (.sc (.int .i64 (.ofNat 0))), (.sl .full 0 []), (.sl .full 0 []), (.sc (.int .i64 (.ofNat 153)))]
def k42 : AV := .sl .lost 2 [(.sc (.int .i64 (.ofNat 5))), (strL []), (strL []), (.sc (.int .i64 (.ofNat 1))), (.sc (.int .i64 (.ofNat 8766))), (.sc (.int .i64 (.ofNat 36525))), (.sc (.int .i64 (.ofNat 8766))), (.sc (.int .i64 (.ofNat 0))), (.sl .full 0 []), (.sl .full 0 []), (.sc (.int .i64 (.ofNat 104))), (.sc (.int .i64 (.ofNat 8))), (strL []), (strL []), (.sc (.int .i64 (.ofNat 0))), (.sc (.int .i64 (.ofNat 0))), (.sc (.int .i64 (.ofNat 0))), (.sc (.int .i64 (.ofNat 0))), (.sc (.int .i64 (.ofNat 0))), (.sl .full 0 []), k41, (.sc (.int .i64 (.ofNat 146)))]
def k43 : AV := .sl .lost 5 [(.sc (.int .i64 (.ofNat 2))), (strL [104, 111, 117, 114, 115]), k1, (.sc (.int .i64 (.ofNat 0))), (.sc (.int .i64 (.ofNat 0))), (.sc (.int .i64 (.ofNat 0))), (.sc (.int .i64 (.ofNat 0))), (.sc (.int .i64 (.ofNat 0))), (.sl .full 0 []), (.sl .full 0 []), (.sc (.int .i64 (.ofNat 0))), (.sc (.int .i64 (.ofNat 2))), (strL [114, 97, 116, 101]), (strL [69, 85, 82]), (.sc (.int .i64 (.ofNat 0))), (.sc (.int .i64 (.ofNat 0))), (.sc (.int .i64 (.ofNat 0))), (.sc (.int .i64 (.ofNat 0))), (.sc (.int .i64 (.ofNat 0))), (.sl .full 0 []), (.sl .full 0 []), (.sc (.int .i64 (.ofNat 22))), (.sc (.int .i64 (.ofNat 2))), k2, (strL [116, 114, 117, 116, 104]), (.sc (.int .i64 (.ofNat 0))), (.sc (.int .i64 (.ofNat 0))), (.sc (.int .i64 (.ofNat 0))), (.sc (.int .i64 (.ofNat 0))), (.sc (.int .i64 (.ofNat 0))), (.sl .full 0 []), (.sl .full 0 []), (.sc (.int .i64 (.ofNat 39))), (.sc (.int .i64 (.ofNat 3))), (strL [98, 97, 115, 105, 99]), (strL [69, 85, 82]), (.sc (.int .i64 (.ofNat 1))), (.sc (.int .i64 (.ofNat 0))), (.sc (.int .i64 (.ofNat 0))), (.sc (.int .i64 (.ofNat 0))), (.sc (.int .i64 (.ofNat 0))), (.sl .full 0 []), (.sl .full 0 []), (.sc (.int .i64 (.ofNat 61))), (.sc (.int .i64 (.ofNat 4))), (strL [98, 97, 115, 105, 99]), (strL []), (.sc (.int .i64 (.ofNat 1))), (.sc (.int .i64 (.ofNat 0))), (.sc (.int .i64 (.ofNat 0))), (.sc (.int .i64 (.ofNat 0))), (.sc (.int .i64 (.ofNat 0))), (.sl .full 0 []), k42, (.sc (.int .i64 (.ofNat 84)))]
def e53 : Ent := ⟨75, [], (some ([k24, (.sc (.int .i64 (.ofNat 0))), (.sc (.int .i64 (.ofNat 21)))], [k24, (.sc (.int .i64 (.ofNat 7))), (.sc (.int .i64 (.ofNat 21)))])), (.agg [(.sc (.int .i64 (.ofNat 17))), (strL [108, 101, 97, 115, 116]), (strL []), (.sc (.int .i64 (.ofNat 0))), (.sc (.int .i64 (.ofNat 0))), (.sc (.int .i64 (.ofNat 0))), (.sc (.int .i64 (.ofNat 0))), (.sc (.int .i64 (.ofNat 0))), (.sl .full 0 []), k40, (.sc (.int .i64 (.ofNat 0)))])⟩
theorem e53_ok {mx : Int} : EntOk Tryz.prog (HdU.G mx) e53 := HdU.entry (l := [e1, e14, e15, e16, e17, e18, e19, e20, e21, e22]) (m := 1000000) (AllOk.cons e1_ok (AllOk.cons e14_ok (AllOk.cons e15_ok (AllOk.cons e16_ok (AllOk.cons e17_ok (AllOk.cons e18_ok (AllOk.cons e19_ok (AllOk.cons e20_ok (AllOk.cons e21_ok (AllOk.cons e22_ok HdU.none)))))))))) (by kernel_rfl) (by kernel_rfl)
def e54 : Ent := ⟨47, [(.agg [(.sc (.int .i64 (.ofNat 17))), (strL [108, 101, 97, 115, 116]), (strL []), (.sc (.int .i64 (.ofNat 0))), (.sc (.int .i64 (.ofNat 0))), (.sc (.int .i64 (.ofNat 0))), (.sc (.int .i64 (.ofNat 0))), (.sc (.int .i64 (.ofNat 0))), (.sl .full 0 []), k40, (.sc (.int .i64 (.ofNat 0)))])], none, (.tup [(.agg [(.sc (.int .i64 (.ofNat 17))), (strL [108, 101, 97, 115, 116]), (strL []), (.sc (.int .i64 (.ofNat 0))), (.sc (.int .i64 (.ofNat 0))), (.sc (.int .i64 (.ofNat 0))), (.sc (.int .i64 (.ofNat 0))), (.sc (.int .i64 (.ofNat 0))), (.sl .full 0 []), k40, (.sc (.int .i64 (.ofNat 0)))]), (.sl .full 0 [])])⟩
theorem e54_ok {mx : Int} : EntOk Tryz.prog (HdU.G mx) e54 := HdU.entry (l := []) (m := 1000000) HdU.none (by kernel_rfl) (by kernel_rfl)
def e55 : Ent := ⟨48, [k23], none, (.tup [(.agg [(.sc (.int .i64 (.ofNat 17))), (strL [108, 101, 97, 115, 116]), (strL []), (.sc (.int .i64 (.ofNat 0))), (.sc (.int .i64 (.ofNat 0))), (.sc (.int .i64 (.ofNat 0))), (.sc (.int .i64 (.ofNat 0))), (.sc (.int .i64 (.ofNat 0))), (.sl .full 0 []), k40, (.sc (.int .i64 (.ofNat 0)))]), (.sl .full 0 [])])⟩
theorem e55_ok {mx : Int} : EntOk Tryz.prog (HdU.G mx) e55 := HdU.entry (l := [e12, e24, e27, e30, e33, e36, e39, e42, e45, e48, e51, e53, e54]) (m := 1000000) (AllOk.cons e12_ok (AllOk.cons e24_ok (AllOk.cons e27_ok (AllOk.cons e30_ok (AllOk.cons e33_ok (AllOk.cons e36_ok (AllOk.cons e39_ok (AllOk.cons e42_ok (AllOk.cons e45_ok (AllOk.cons e48_ok (AllOk.cons e51_ok (AllOk.cons e53_ok (AllOk.cons e54_ok HdU.none))))))))))))) (by kernel_rfl) (by kernel_rfl)
def e56 : Ent := ⟨70, [], (some ([k5, (.sc (.int .i64 (.ofNat 0))), (.sc (.int .i64 (.ofNat 164)))], [k5, (.sc (.int .i64 (.ofNat 5))), (.sc (.int .i64 (.ofNat 164)))])), (.agg [(.sc (.int .i64 (.ofNat 2))), (strL [104, 111, 117, 114, 115]), k1, (.sc (.int .i64 (.ofNat 0))), (.sc (.int .i64 (.ofNat 0))), (.sc (.int .i64 (.ofNat 0))), (.sc (.int .i64 (.ofNat 0))), (.sc (.int .i64 (.ofNat 0))), (.sl .full 0 []), (.sl .full 0 []), (.sc (.int .i64 (.ofNat 0)))])⟩
theorem e56_ok {mx : Int} : EntOk Tryz.prog (HdU.G mx) e56 := HdU.entry (l := []) (m := 1000000) HdU.none (by kernel_rfl) (by kernel_rfl)
def e57 : Ent := ⟨45, [], (some ([k5, (.sc (.int .i64 (.ofNat 0))), (.sc (.int .i64 (.ofNat 164)))], [k5, (.sc (.int .i64 (.ofNat 5))), (.sc (.int .i64 (.ofNat 164)))])), (.agg [(.sc (.int .i64 (.ofNat 2))), (strL [104, 111, 117, 114, 115]), k1, (.sc (.int .i64 (.ofNat 0))), (.sc (.int .i64 (.ofNat 0))), (.sc (.int .i64 (.ofNat 0))), (.sc (.int .i64 (.ofNat 0))), (.sc (.int .i64 (.ofNat 0))), (.sl .full 0 []), (.sl .full 0 []), (.sc (.int .i64 (.ofNat 0)))])⟩
theorem e57_ok {mx : Int} : EntOk Tryz.prog (HdU.G mx) e57 := HdU.entry (l := [e56]) (m := 1000000) (AllOk.cons e56_ok HdU.none) (by kernel_rfl) (by kernel_rfl)
def e58 : Ent := ⟨70, [], (some ([k5, (.sc (.int .i64 (.ofNat 5))), (.sc (.int .i64 (.ofNat 164)))], [k5, (.sc (.int .i64 (.ofNat 10))), (.sc (.int .i64 (.ofNat 164)))])), (.agg [(.sc (.int .i64 (.ofNat 2))), (strL [114, 97, 116, 101]), (strL [69, 85, 82]), (.sc (.int .i64 (.ofNat 0))), (.sc (.int .i64 (.ofNat 0))), (.sc (.int .i64 (.ofNat 0))), (.sc (.int .i64 (.ofNat 0))), (.sc (.int .i64 (.ofNat 0))), (.sl .full 0 []), (.sl .full 0 []), (.sc (.int .i64 (.ofNat 22)))])⟩
theorem e58_ok {mx : Int} : EntOk Tryz.prog (HdU.G mx) e58 := HdU.entry (l := []) (m := 1000000) HdU.none (by kernel_rfl) (by kernel_rfl)
def e59 : Ent := ⟨45, [], (some ([k5, (.sc (.int .i64 (.ofNat 5))), (.sc (.int .i64 (.ofNat 164)))], [k5, (.sc (.int .i64 (.ofNat 10))), (.sc (.int .i64 (.ofNat 164)))])), (.agg [(.sc (.int .i64 (.ofNat 2))), (strL [114, 97, 116, 101]), (strL [69, 85, 82]), (.sc (.int .i64 (.ofNat 0))), (.sc (.int .i64 (.ofNat 0))), (.sc (.int .i64 (.ofNat 0))), (.sc (.int .i64 (.ofNat 0))), (.sc (.int .i64 (.ofNat 0))), (.sl .full 0 []), (.sl .full 0 []), (.sc (.int .i64 (.ofNat 22)))])⟩
theorem e59_ok {mx : Int} : EntOk Tryz.prog (HdU.G mx) e59 := HdU.entry (l := [e56, e58]) (m := 1000000) (AllOk.cons e56_ok (AllOk.cons e58_ok HdU.none)) (by kernel_rfl) (by kernel_rfl)
def e60 : Ent := ⟨70, [], (some ([k5, (.sc (.int .i64 (.ofNat 10))), (.sc (.int .i64 (.ofNat 164)))], [k5, (.sc (.int .i64 (.ofNat 15))), (.sc (.int .i64 (.ofNat 164)))])), (.agg [(.sc (.int .i64 (.ofNat 2))), k2, (strL [116, 114, 117, 116, 104]), (.sc (.int .i64 (.ofNat 0))), (.sc (.int .i64 (.ofNat 0))), (.sc (.int .i64 (.ofNat 0))), (.sc (.int .i64 (.ofNat 0))), (.sc (.int .i64 (.ofNat 0))), (.sl .full 0 []), (.sl .full 0 []), (.sc (.int .i64 (.ofNat 39)))])⟩
theorem e60_ok {mx : Int} : EntOk Tryz.prog (HdU.G mx) e60 := HdU.entry (l := []) (m := 1000000) HdU.none (by kernel_rfl) (by kernel_rfl)
def e61 : Ent := ⟨45, [], (some ([k5, (.sc (.int .i64 (.ofNat 10))), (.sc (.int .i64 (.ofNat 164)))], [k5, (.sc (.int .i64 (.ofNat 15))), (.sc (.int .i64 (.ofNat 164)))])), (.agg [(.sc (.int .i64 (.ofNat 2))), k2, (strL [116, 114, 117, 116, 104]), (.sc (.int .i64 (.ofNat 0))), (.sc (.int .i64 (.ofNat 0))), (.sc (.int .i64 (.ofNat 0))), (.sc (.int .i64 (.ofNat 0))), (.sc (.int .i64 (.ofNat 0))), (.sl .full 0 []), (.sl .full 0 []), (.sc (.int .i64 (.ofNat 39)))])⟩
theorem e61_ok {mx : Int} : EntOk Tryz.prog (HdU.G mx) e61 := HdU.entry (l := [e56, e58, e60]) (m := 1000000) (AllOk.cons e56_ok (AllOk.cons e58_ok (AllOk.cons e60_ok HdU.none))) (by kernel_rfl) (by kernel_rfl)
def e62 : Ent := ⟨70, [], (some ([k5, (.sc (.int .i64 (.ofNat 15))), (.sc (.int .i64 (.ofNat 164)))], [k5, (.sc (.int .i64 (.ofNat 21))), (.sc (.int .i64 (.ofNat 164)))])), (.agg [(.sc (.int .i64 (.ofNat 3))), (strL [98, 97, 115, 105, 99]), (strL [69, 85, 82]), (.sc (.int .i64 (.ofNat 1))), (.sc (.int .i64 (.ofNat 0))), (.sc (.int .i64 (.ofNat 0))), (.sc (.int .i64 (.ofNat 0))), (.sc (.int .i64 (.ofNat 0))), (.sl .full 0 []), (.sl .full 0 []), (.sc (.int .i64 (.ofNat 61)))])⟩
theorem e62_ok {mx : Int} : EntOk Tryz.prog (HdU.G mx) e62 := HdU.entry (l := []) (m := 1000000) HdU.none (by kernel_rfl) (by kernel_rfl)
def e63 : Ent := ⟨45, [], (some ([k5, (.sc (.int .i64 (.ofNat 15))), (.sc (.int .i64 (.ofNat 164)))], [k5, (.sc (.int .i64 (.ofNat 21))), (.sc (.int .i64 (.ofNat 164)))])), (.agg [(.sc (.int .i64 (.ofNat 3))), (strL [98, 97, 115, 105, 99]), (strL [69, 85, 82]), (.sc (.int .i64 (.ofNat 1))), (.sc (.int .i64 (.ofNat 0))), (.sc (.int .i64 (.ofNat 0))), (.sc (.int .i64 (.ofNat 0))), (.sc (.int .i64 (.ofNat 0))), (.sl .full 0 []), (.sl .full 0 []), (.sc (.int .i64 (.ofNat 61)))])⟩
theorem e63_ok {mx : Int} : EntOk Tryz.prog (HdU.G mx) e63 := HdU.entry (l := [e56, e58, e60, e62]) (m := 1000000) (AllOk.cons e56_ok (AllOk.cons e58_ok (AllOk.cons e60_ok (AllOk.cons e62_ok HdU.none)))) (by kernel_rfl) (by kernel_rfl)
def e64 : Ent := ⟨139, [k4], none, (.tup [(.sc (.int .i64 (.ofNat 8766))), (.sc (.int .i64 (.ofNat 0)))])⟩
theorem e64_ok {mx : Int} : EntOk Tryz.prog (HdU.G mx) e64 := HdU.entry (l := []) (m := 1000000) HdU.none (by kernel_rfl) (by kernel_rfl)
def e65 : Ent := ⟨128, [(.sc (.int .i64 (.ofNat 0)))], (some ([k5, (.sc (.int .i64 (.ofNat 28))), (.sc (.int .i64 (.ofNat 164)))], [k5, (.sc (.int .i64 (.ofNat 29))), (.sc (.int .i64 (.ofNat 164)))])), (.sc (.int .i64 (.ofNat 8766)))⟩
theorem e65_ok {mx : Int} : EntOk Tryz.prog (HdU.G mx) e65 := HdU.entry (l := [e64]) (m := 1000000) (AllOk.cons e64_ok HdU.none) (by kernel_rfl) (by kernel_rfl)
def e66 : Ent := ⟨128, [(.sc (.int .i64 (.ofNat 0)))], (some ([k5, (.sc (.int .i64 (.ofNat 30))), (.sc (.int .i64 (.ofNat 164)))], [k5, (.sc (.int .i64 (.ofNat 31))), (.sc (.int .i64 (.ofNat 164)))])), (.sc (.int .i64 (.ofNat 8766)))⟩
theorem e66_ok {mx : Int} : EntOk Tryz.prog (HdU.G mx) e66 := HdU.entry (l := [e64]) (m := 1000000) (AllOk.cons e64_ok HdU.none) (by kernel_rfl) (by kernel_rfl)
def e67 : Ent := ⟨110, [], (some ([k5, (.sc (.int .i64 (.ofNat 25))), (.sc (.int .i64 (.ofNat 164)))], [k5, (.sc (.int .i64 (.ofNat 31))), (.sc (.int .i64 (.ofNat 164)))])), (.agg [(.sc (.int .i64 (.ofNat 5))), (strL []), (strL []), (.sc (.int .i64 (.ofNat 1))), (.sc (.int .i64 (.ofNat 8766))), (.sc (.int .i64 (.ofNat 36525))), (.sc (.int .i64 (.ofNat 8766))), (.sc (.int .i64 (.ofNat 0))), (.sl .full 0 []), (.sl .full 0 []), (.sc (.int .i64 (.ofNat 104)))])⟩
theorem e67_ok {mx : Int} : EntOk Tryz.prog (HdU.G mx) e67 := HdU.entry (l := [e14, e15, e16, e17, e18, e19, e20, e65, e66]) (m := 1000000) (AllOk.cons e14_ok (AllOk.cons e15_ok (AllOk.cons e16_ok (AllOk.cons e17_ok (AllOk.cons e18_ok (AllOk.cons e19_ok (AllOk.cons e20_ok (AllOk.cons e65_ok (AllOk.cons e66_ok HdU.none))))))))) (by kernel_rfl) (by kernel_rfl)
def e68 : Ent := ⟨75, [], (some ([k5, (.sc (.int .i64 (.ofNat 33))), (.sc (.int .i64 (.ofNat 164)))], [k5, (.sc (.int .i64 (.ofNat 35))), (.sc (.int .i64 (.ofNat 164)))])), (.agg [(.sc (.int .i64 (.ofNat 11))), (strL []), (strL [69, 85, 82]), (.sc (.int .i64 (.ofNat 100))), (.sc (.int .i64 (.ofNat 0))), (.sc (.int .i64 (.ofNat 0))), (.sc (.int .i64 (.ofNat 0))), (.sc (.int .i64 (.ofNat 0))), (.sl .full 0 []), (.sl .full 0 []), (.sc (.int .i64 (.ofNat 153)))])⟩
theorem e68_ok {mx : Int} : EntOk Tryz.prog (HdU.G mx) e68 := HdU.entry (l := [e1, e14, e15, e16, e17, e18, e19, e20, e21, e22]) (m := 1000000) (AllOk.cons e1_ok (AllOk.cons e14_ok (AllOk.cons e15_ok (AllOk.cons e16_ok (AllOk.cons e17_ok (AllOk.cons e18_ok (AllOk.cons e19_ok (AllOk.cons e20_ok (AllOk.cons e21_ok (AllOk.cons e22_ok HdU.none)))))))))) (by kernel_rfl) (by kernel_rfl)
def e69 : Ent := ⟨111, [(.sc (.int .i64 (.ofNat 8)))], (some ([k5, (.sc (.int .i64 (.ofNat 32))), (.sc (.int .i64 (.ofNat 164)))], [k5, (.sc (.int .i64 (.ofNat 36))), (.sc (.int .i64 (.ofNat 164)))])), (.agg [(.sc (.int .i64 (.ofNat 8))), (strL []), (strL []), (.sc (.int .i64 (.ofNat 0))), (.sc (.int .i64 (.ofNat 0))), (.sc (.int .i64 (.ofNat 0))), (.sc (.int .i64 (.ofNat 0))), (.sc (.int .i64 (.ofNat 0))), (.sl .full 0 []), k41, (.sc (.int .i64 (.ofNat 146)))])⟩
theorem e69_ok {mx : Int} : EntOk Tryz.prog (HdU.G mx) e69 := HdU.entry (l := [e1, e14, e15, e16, e17, e18, e19, e20, e21, e22, e68]) (m := 1000000) (AllOk.cons e1_ok (AllOk.cons e14_ok (AllOk.cons e15_ok (AllOk.cons e16_ok (AllOk.cons e17_ok (AllOk.cons e18_ok (AllOk.cons e19_ok (AllOk.cons e20_ok (AllOk.cons e21_ok (AllOk.cons e22_ok (AllOk.cons e68_ok HdU.none))))))))))) (by kernel_rfl) (by kernel_rfl)
def e70 : Ent := ⟨71, [], (some ([k5, (.sc (.int .i64 (.ofNat 21))), (.sc (.int .i64 (.ofNat 164)))], [k5, (.sc (.int .i64 (.ofNat 37))), (.sc (.int .i64 (.ofNat 164)))])), (.agg [(.sc (.int .i64 (.ofNat 4))), (strL [98, 97, 115, 105, 99]), (strL []), (.sc (.int .i64 (.ofNat 1))), (.sc (.int .i64 (.ofNat 0))), (.sc (.int .i64 (.ofNat 0))), (.sc (.int .i64 (.ofNat 0))), (.sc (.int .i64 (.ofNat 0))), (.sl .full 0 []), k42, (.sc (.int .i64 (.ofNat 84)))])⟩
theorem e70_ok {mx : Int} : EntOk Tryz.prog (HdU.G mx) e70 := HdU.entry (l := [e14, e15, e16, e17, e18, e19, e20, e67, e69]) (m := 1000000) (AllOk.cons e14_ok (AllOk.cons e15_ok (AllOk.cons e16_ok (AllOk.cons e17_ok (AllOk.cons e18_ok (AllOk.cons e19_ok (AllOk.cons e20_ok (AllOk.cons e67_ok (AllOk.cons e69_ok HdU.none))))))))) (by kernel_rfl) (by kernel_rfl)
def e71 : Ent := ⟨45, [], (some ([k5, (.sc (.int .i64 (.ofNat 21))), (.sc (.int .i64 (.ofNat 164)))], [k5, (.sc (.int .i64 (.ofNat 37))), (.sc (.int .i64 (.ofNat 164)))])), (.agg [(.sc (.int .i64 (.ofNat 4))), (strL [98, 97, 115, 105, 99]), (strL []), (.sc (.int .i64 (.ofNat 1))), (.sc (.int .i64 (.ofNat 0))), (.sc (.int .i64 (.ofNat 0))), (.sc (.int .i64 (.ofNat 0))), (.sc (.int .i64 (.ofNat 0))), (.sl .full 0 []), k42, (.sc (.int .i64 (.ofNat 84)))])⟩
theorem e71_ok {mx : Int} : EntOk Tryz.prog (HdU.G mx) e71 := HdU.entry (l := [e56, e58, e60, e62, e70]) (m := 1000000) (AllOk.cons e56_ok (AllOk.cons e58_ok (AllOk.cons e60_ok (AllOk.cons e62_ok (AllOk.cons e70_ok HdU.none))))) (by kernel_rfl) (by kernel_rfl)
def e72 : Ent := ⟨27, [k0], none, (.tup [(.agg [(.sc (.int .i64 (.ofNat 1))), (strL []), (strL []), (.sc (.int .i64 (.ofNat 0))), (.sc (.int .i64 (.ofNat 0))), (.sc (.int .i64 (.ofNat 0))), (.sc (.int .i64 (.ofNat 0))), (.sc (.int .i64 (.ofNat 0))), (.sl .full 0 []), k43, (.sc (.int .i64 (.ofNat 0)))]), (.sl .full 0 [])])⟩
theorem e72_ok {mx : Int} : EntOk Tryz.prog (HdU.G mx) e72 := HdU.entry (l := [e0, e57, e59, e61, e63, e71]) (m := 1000000) (AllOk.cons e0_ok (AllOk.cons e57_ok (AllOk.cons e59_ok (AllOk.cons e61_ok (AllOk.cons e63_ok (AllOk.cons e71_ok HdU.none)))))) (by kernel_rfl) (by kernel_rfl)
def e73 : Ent := ⟨70, [], (some ([k26, (.sc (.int .i64 (.ofNat 0))), (.sc (.int .i64 (.ofNat 190)))], [k26, (.sc (.int .i64 (.ofNat 5))), (.sc (.int .i64 (.ofNat 190)))])), (.agg [(.sc (.int .i64 (.ofNat 2))), (strL [104, 111, 117, 114, 115]), k1, (.sc (.int .i64 (.ofNat 0))), (.sc (.int .i64 (.ofNat 0))), (.sc (.int .i64 (.ofNat 0))), (.sc (.int .i64 (.ofNat 0))), (.sc (.int .i64 (.ofNat 0))), (.sl .full 0 []), (.sl .full 0 []), (.sc (.int .i64 (.ofNat 0)))])⟩
theorem e73_ok {mx : Int} : EntOk Tryz.prog (HdU.G mx) e73 := HdU.entry (l := []) (m := 1000000) HdU.none (by kernel_rfl) (by kernel_rfl)
def e74 : Ent := ⟨45, [], (some ([k26, (.sc (.int .i64 (.ofNat 0))), (.sc (.int .i64 (.ofNat 190)))], [k26, (.sc (.int .i64 (.ofNat 5))), (.sc (.int .i64 (.ofNat 190)))])), (.agg [(.sc (.int .i64 (.ofNat 2))), (strL [104, 111, 117, 114, 115]), k1, (.sc (.int .i64 (.ofNat 0))), (.sc (.int .i64 (.ofNat 0))), (.sc (.int .i64 (.ofNat 0))), (.sc (.int .i64 (.ofNat 0))), (.sc (.int .i64 (.ofNat 0))), (.sl .full 0 []), (.sl .full 0 []), (.sc (.int .i64 (.ofNat 0)))])⟩
theorem e74_ok {mx : Int} : EntOk Tryz.prog (HdU.G mx) e74 := HdU.entry (l := [e73]) (m := 1000000) (AllOk.cons e73_ok HdU.none) (by kernel_rfl) (by kernel_rfl)
def e75 : Ent := ⟨70, [], (some ([k26, (.sc (.int .i64 (.ofNat 5))), (.sc (.int .i64 (.ofNat 190)))], [k26, (.sc (.int .i64 (.ofNat 10))), (.sc (.int .i64 (.ofNat 190)))])), (.agg [(.sc (.int .i64 (.ofNat 2))), (strL [114, 97, 116, 101]), (strL [69, 85, 82]), (.sc (.int .i64 (.ofNat 0))), (.sc (.int .i64 (.ofNat 0))), (.sc (.int .i64 (.ofNat 0))), (.sc (.int .i64 (.ofNat 0))), (.sc (.int .i64 (.ofNat 0))), (.sl .full 0 []), (.sl .full 0 []), (.sc (.int .i64 (.ofNat 22)))])⟩
theorem e75_ok {mx : Int} : EntOk Tryz.prog (HdU.G mx) e75 := HdU.entry (l := []) (m := 1000000) HdU.none (by kernel_rfl) (by kernel_rfl)
def e76 : Ent := ⟨45, [], (some ([k26, (.sc (.int .i64 (.ofNat 5))), (.sc (.int .i64 (.ofNat 190)))], [k26, (.sc (.int .i64 (.ofNat 10))), (.sc (.int .i64 (.ofNat 190)))])), (.agg [(.sc (.int .i64 (.ofNat 2))), (strL [114, 97, 116, 101]), (strL [69, 85, 82]), (.sc (.int .i64 (.ofNat 0))), (.sc (.int .i64 (.ofNat 0))), (.sc (.int .i64 (.ofNat 0))), (.sc (.int .i64 (.ofNat 0))), (.sc (.int .i64 (.ofNat 0))), (.sl .full 0 []), (.sl .full 0 []), (.sc (.int .i64 (.ofNat 22)))])⟩
theorem e76_ok {mx : Int} : EntOk Tryz.prog (HdU.G mx) e76 := HdU.entry (l := [e73, e75]) (m := 1000000) (AllOk.cons e73_ok (AllOk.cons e75_ok HdU.none)) (by kernel_rfl) (by kernel_rfl)
def e77 : Ent := ⟨70, [], (some ([k26, (.sc (.int .i64 (.ofNat 10))), (.sc (.int .i64 (.ofNat 190)))], [k26, (.sc (.int .i64 (.ofNat 15))), (.sc (.int .i64 (.ofNat 190)))])), (.agg [(.sc (.int .i64 (.ofNat 2))), k2, (strL [116, 114, 117, 116, 104]), (.sc (.int .i64 (.ofNat 0))), (.sc (.int .i64 (.ofNat 0))), (.sc (.int .i64 (.ofNat 0))), (.sc (.int .i64 (.ofNat 0))), (.sc (.int .i64 (.ofNat 0))), (.sl .full 0 []), (.sl .full 0 []), (.sc (.int .i64 (.ofNat 39)))])⟩
theorem e77_ok {mx : Int} : EntOk Tryz.prog (HdU.G mx) e77 := HdU.entry (l := []) (m := 1000000) HdU.none (by kernel_rfl) (by kernel_rfl)
end Go.Proofs.YtkfplcngmiljaaaGreatDoor
namespace Go.Proofs.YtkfplcngmiljaaaGreatDoor
open AI
set_option maxRecDepth 100000
set_option maxHeartbeats 4000000
def k44 : AV := .sl .lost 6 [(.sc (.int .i64 (.ofNat 2))), (strL [104, 111, 117, 114, 115]), k1, (.sc (.int .i64 (.ofNat 0))), (.sc (.int .i64 (.ofNat 0))), (.sc (.int .i64 (.ofNat 0))), (.sc (.int .i64 (.ofNat 0))), (.sc (.int .i64 (.ofNat 0))), (.sl .full 0 []), (.sl .full 0 []), (.sc (.int .i64 (.ofNat 0))), (.sc (.int .i64 (.ofNat 2))), (strL [114, 97, 116, 101]), (strL [69, 85, 82]), (.sc (.int .i64 (.ofNat 0))), (.sc (.int .i64 (.ofNat 0))), (.sc (.int .i64 (.ofNat 0))), (.sc (.int .i64 (.ofNat 0))), (.sc (.int .i64 (.ofNat 0))), (.sl .full 0 []), (.sl .full 0 []), (.sc (.int .i64 (.ofNat 22))), (.sc (.int .i64 (.ofNat 2))), k2, (strL [116, 114, 117, 116, 104]), (.sc (.int .i64 (.ofNat 0))), (.sc (.int .i64 (.ofNat 0))), (.sc (.int .i64 (.ofNat 0))), (.sc (.int .i64 (.ofNat 0))), (.sc (.int .i64 (.ofNat 0))), (.sl .full 0 []), (.sl .full 0 []), (.sc (.int .i64 (.ofNat 39))), (.sc (.int .i64 (.ofNat 3))), (strL [98, 97, 115, 105, 99]), (strL [69, 85, 82]), (.sc (.int .i64 (.ofNat 1))), (.sc (.int .i64 (.ofNat 0))), (.sc (.int .i64 (.ofNat 0))), (.sc (.int .i64 (.ofNat 0))), (.sc (.int .i64 (.ofNat 0))), (.sl .full 0 []), (.sl .full 0 []), (.sc (.int .i64 (.ofNat 61))), (.sc (.int .i64 (.ofNat 4))), (strL [98, 97, 115, 105, 99]), (strL []), (.sc (.int .i64 (.ofNat 1))), (.sc (.int .i64 (.ofNat 0))), (.sc (.int .i64 (.ofNat 0))), (.sc (.int .i64 (.ofNat 0))), (.sc (.int .i64 (.ofNat 0))), (.sl .full 0 []), k42, (.sc (.int .i64 (.ofNat 84))), (.sc (.int .i64 (.ofNat 3))), (strL [98, 97, 115, 105, 99]), (strL [110, 117, 109, 98, 101, 114]), (.sc (.int .i64 (.ofNat 4))), (.sc (.int .i64 (.ofNat 0))), (.sc (.int .i64 (.ofNat 0))), (.sc (.int .i64 (.ofNat 0))), (.sc (.int .i64 (.ofNat 0))), (.sl .full 0 []), (.sl .full 0 []), (.sc (.int .i64 (.ofNat 165)))]
def e78 : Ent := ⟨45, [], (some ([k26, (.sc (.int .i64 (.ofNat 10))), (.sc (.int .i64 (.ofNat 190)))], [k26, (.sc (.int .i64 (.ofNat 15))), (.sc (.int .i64 (.ofNat 190)))])), (.agg [(.sc (.int .i64 (.ofNat 2))), k2, (strL [116, 114, 117, 116, 104]), (.sc (.int .i64 (.ofNat 0))), (.sc (.int .i64 (.ofNat 0))), (.sc (.int .i64 (.ofNat 0))), (.sc (.int .i64 (.ofNat 0))), (.sc (.int .i64 (.ofNat 0))), (.sl .full 0 []), (.sl .full 0 []), (.sc (.int .i64 (.ofNat 39)))])⟩
theorem e78_ok {mx : Int} : EntOk Tryz.prog (HdU.G mx) e78 := HdU.entry (l := [e73, e75, e77]) (m := 1000000) (AllOk.cons e73_ok (AllOk.cons e75_ok (AllOk.cons e77_ok HdU.none))) (by kernel_rfl) (by kernel_rfl)
def e79 : Ent := ⟨70, [], (some ([k26, (.sc (.int .i64 (.ofNat 15))), (.sc (.int .i64 (.ofNat 190)))], [k26, (.sc (.int .i64 (.ofNat 21))), (.sc (.int .i64 (.ofNat 190)))])), (.agg [(.sc (.int .i64 (.ofNat 3))), (strL [98, 97, 115, 105, 99]), (strL [69, 85, 82]), (.sc (.int .i64 (.ofNat 1))), (.sc (.int .i64 (.ofNat 0))), (.sc (.int .i64 (.ofNat 0))), (.sc (.int .i64 (.ofNat 0))), (.sc (.int .i64 (.ofNat 0))), (.sl .full 0 []), (.sl .full 0 []), (.sc (.int .i64 (.ofNat 61)))])⟩
theorem e79_ok {mx : Int} : EntOk Tryz.prog (HdU.G mx) e79 := HdU.entry (l := []) (m := 1000000) HdU.none (by kernel_rfl) (by kernel_rfl)
def e80 : Ent := ⟨45, [], (some ([k26, (.sc (.int .i64 (.ofNat 15))), (.sc (.int .i64 (.ofNat 190)))], [k26, (.sc (.int .i64 (.ofNat 21))), (.sc (.int .i64 (.ofNat 190)))])), (.agg [(.sc (.int .i64 (.ofNat 3))), (strL [98, 97, 115, 105, 99]), (strL [69, 85, 82]), (.sc (.int .i64 (.ofNat 1))), (.sc (.int .i64 (.ofNat 0))), (.sc (.int .i64 (.ofNat 0))), (.sc (.int .i64 (.ofNat 0))), (.sc (.int .i64 (.ofNat 0))), (.sl .full 0 []), (.sl .full 0 []), (.sc (.int .i64 (.ofNat 61)))])⟩
theorem e80_ok {mx : Int} : EntOk Tryz.prog (HdU.G mx) e80 := HdU.entry (l := [e73, e75, e77, e79]) (m := 1000000) (AllOk.cons e73_ok (AllOk.cons e75_ok (AllOk.cons e77_ok (AllOk.cons e79_ok HdU.none)))) (by kernel_rfl) (by kernel_rfl)
def e81 : Ent := ⟨128, [(.sc (.int .i64 (.ofNat 0)))], (some ([k26, (.sc (.int .i64 (.ofNat 28))), (.sc (.int .i64 (.ofNat 190)))], [k26, (.sc (.int .i64 (.ofNat 29))), (.sc (.int .i64 (.ofNat 190)))])), (.sc (.int .i64 (.ofNat 8766)))⟩
theorem e81_ok {mx : Int} : EntOk Tryz.prog (HdU.G mx) e81 := HdU.entry (l := [e64]) (m := 1000000) (AllOk.cons e64_ok HdU.none) (by kernel_rfl) (by kernel_rfl)
def e82 : Ent := ⟨128, [(.sc (.int .i64 (.ofNat 0)))], (some ([k26, (.sc (.int .i64 (.ofNat 30))), (.sc (.int .i64 (.ofNat 190)))], [k26, (.sc (.int .i64 (.ofNat 31))), (.sc (.int .i64 (.ofNat 190)))])), (.sc (.int .i64 (.ofNat 8766)))⟩
theorem e82_ok {mx : Int} : EntOk Tryz.prog (HdU.G mx) e82 := HdU.entry (l := [e64]) (m := 1000000) (AllOk.cons e64_ok HdU.none) (by kernel_rfl) (by kernel_rfl)
def e83 : Ent := ⟨110, [], (some ([k26, (.sc (.int .i64 (.ofNat 25))), (.sc (.int .i64 (.ofNat 190)))], [k26, (.sc (.int .i64 (.ofNat 31))), (.sc (.int .i64 (.ofNat 190)))])), (.agg [(.sc (.int .i64 (.ofNat 5))), (strL []), (strL []), (.sc (.int .i64 (.ofNat 1))), (.sc (.int .i64 (.ofNat 8766))), (.sc (.int .i64 (.ofNat 36525))), (.sc (.int .i64 (.ofNat 8766))), (.sc (.int .i64 (.ofNat 0))), (.sl .full 0 []), (.sl .full 0 []), (.sc (.int .i64 (.ofNat 104)))])⟩
theorem e83_ok {mx : Int} : EntOk Tryz.prog (HdU.G mx) e83 := HdU.entry (l := [e14, e15, e16, e17, e18, e19, e20, e81, e82]) (m := 1000000) (AllOk.cons e14_ok (AllOk.cons e15_ok (AllOk.cons e16_ok (AllOk.cons e17_ok (AllOk.cons e18_ok (AllOk.cons e19_ok (AllOk.cons e20_ok (AllOk.cons e81_ok (AllOk.cons e82_ok HdU.none))))))))) (by kernel_rfl) (by kernel_rfl)
def e84 : Ent := ⟨75, [], (some ([k26, (.sc (.int .i64 (.ofNat 33))), (.sc (.int .i64 (.ofNat 190)))], [k26, (.sc (.int .i64 (.ofNat 35))), (.sc (.int .i64 (.ofNat 190)))])), (.agg [(.sc (.int .i64 (.ofNat 11))), (strL []), (strL [69, 85, 82]), (.sc (.int .i64 (.ofNat 100))), (.sc (.int .i64 (.ofNat 0))), (.sc (.int .i64 (.ofNat 0))), (.sc (.int .i64 (.ofNat 0))), (.sc (.int .i64 (.ofNat 0))), (.sl .full 0 []), (.sl .full 0 []), (.sc (.int .i64 (.ofNat 153)))])⟩
theorem e84_ok {mx : Int} : EntOk Tryz.prog (HdU.G mx) e84 := HdU.entry (l := [e1, e14, e15, e16, e17, e18, e19, e20, e21, e22]) (m := 1000000) (AllOk.cons e1_ok (AllOk.cons e14_ok (AllOk.cons e15_ok (AllOk.cons e16_ok (AllOk.cons e17_ok (AllOk.cons e18_ok (AllOk.cons e19_ok (AllOk.cons e20_ok (AllOk.cons e21_ok (AllOk.cons e22_ok HdU.none)))))))))) (by kernel_rfl) (by kernel_rfl)
def e85 : Ent := ⟨111, [(.sc (.int .i64 (.ofNat 8)))], (some ([k26, (.sc (.int .i64 (.ofNat 32))), (.sc (.int .i64 (.ofNat 190)))], [k26, (.sc (.int .i64 (.ofNat 36))), (.sc (.int .i64 (.ofNat 190)))])), (.agg [(.sc (.int .i64 (.ofNat 8))), (strL []), (strL []), (.sc (.int .i64 (.ofNat 0))), (.sc (.int .i64 (.ofNat 0))), (.sc (.int .i64 (.ofNat 0))), (.sc (.int .i64 (.ofNat 0))), (.sc (.int .i64 (.ofNat 0))), (.sl .full 0 []), k41, (.sc (.int .i64 (.ofNat 146)))])⟩
theorem e85_ok {mx : Int} : EntOk Tryz.prog (HdU.G mx) e85 := HdU.entry (l := [e1, e14, e15, e16, e17, e18, e19, e20, e21, e22, e84]) (m := 1000000) (AllOk.cons e1_ok (AllOk.cons e14_ok (AllOk.cons e15_ok (AllOk.cons e16_ok (AllOk.cons e17_ok (AllOk.cons e18_ok (AllOk.cons e19_ok (AllOk.cons e20_ok (AllOk.cons e21_ok (AllOk.cons e22_ok (AllOk.cons e84_ok HdU.none))))))))))) (by kernel_rfl) (by kernel_rfl)
def e86 : Ent := ⟨71, [], (some ([k26, (.sc (.int .i64 (.ofNat 21))), (.sc (.int .i64 (.ofNat 190)))], [k26, (.sc (.int .i64 (.ofNat 37))), (.sc (.int .i64 (.ofNat 190)))])), (.agg [(.sc (.int .i64 (.ofNat 4))), (strL [98, 97, 115, 105, 99]), (strL []), (.sc (.int .i64 (.ofNat 1))), (.sc (.int .i64 (.ofNat 0))), (.sc (.int .i64 (.ofNat 0))), (.sc (.int .i64 (.ofNat 0))), (.sc (.int .i64 (.ofNat 0))), (.sl .full 0 []), k42, (.sc (.int .i64 (.ofNat 84)))])⟩
theorem e86_ok {mx : Int} : EntOk Tryz.prog (HdU.G mx) e86 := HdU.entry (l := [e14, e15, e16, e17, e18, e19, e20, e83, e85]) (m := 1000000) (AllOk.cons e14_ok (AllOk.cons e15_ok (AllOk.cons e16_ok (AllOk.cons e17_ok (AllOk.cons e18_ok (AllOk.cons e19_ok (AllOk.cons e20_ok (AllOk.cons e83_ok (AllOk.cons e85_ok HdU.none))))))))) (by kernel_rfl) (by kernel_rfl)
def e87 : Ent := ⟨45, [], (some ([k26, (.sc (.int .i64 (.ofNat 21))), (.sc (.int .i64 (.ofNat 190)))], [k26, (.sc (.int .i64 (.ofNat 37))), (.sc (.int .i64 (.ofNat 190)))])), (.agg [(.sc (.int .i64 (.ofNat 4))), (strL [98, 97, 115, 105, 99]), (strL []), (.sc (.int .i64 (.ofNat 1))), (.sc (.int .i64 (.ofNat 0))), (.sc (.int .i64 (.ofNat 0))), (.sc (.int .i64 (.ofNat 0))), (.sc (.int .i64 (.ofNat 0))), (.sl .full 0 []), k42, (.sc (.int .i64 (.ofNat 84)))])⟩
theorem e87_ok {mx : Int} : EntOk Tryz.prog (HdU.G mx) e87 := HdU.entry (l := [e73, e75, e77, e79, e86]) (m := 1000000) (AllOk.cons e73_ok (AllOk.cons e75_ok (AllOk.cons e77_ok (AllOk.cons e79_ok (AllOk.cons e86_ok HdU.none))))) (by kernel_rfl) (by kernel_rfl)
def e88 : Ent := ⟨70, [], (some ([k26, (.sc (.int .i64 (.ofNat 37))), (.sc (.int .i64 (.ofNat 190)))], [k26, (.sc (.int .i64 (.ofNat 43))), (.sc (.int .i64 (.ofNat 190)))])), (.agg [(.sc (.int .i64 (.ofNat 3))), (strL [98, 97, 115, 105, 99]), (strL [110, 117, 109, 98, 101, 114]), (.sc (.int .i64 (.ofNat 4))), (.sc (.int .i64 (.ofNat 0))), (.sc (.int .i64 (.ofNat 0))), (.sc (.int .i64 (.ofNat 0))), (.sc (.int .i64 (.ofNat 0))), (.sl .full 0 []), (.sl .full 0 []), (.sc (.int .i64 (.ofNat 165)))])⟩
theorem e88_ok {mx : Int} : EntOk Tryz.prog (HdU.G mx) e88 := HdU.entry (l := []) (m := 1000000) HdU.none (by kernel_rfl) (by kernel_rfl)
def e89 : Ent := ⟨45, [], (some ([k26, (.sc (.int .i64 (.ofNat 37))), (.sc (.int .i64 (.ofNat 190)))], [k26, (.sc (.int .i64 (.ofNat 43))), (.sc (.int .i64 (.ofNat 190)))])), (.agg [(.sc (.int .i64 (.ofNat 3))), (strL [98, 97, 115, 105, 99]), (strL [110, 117, 109, 98, 101, 114]), (.sc (.int .i64 (.ofNat 4))), (.sc (.int .i64 (.ofNat 0))), (.sc (.int .i64 (.ofNat 0))), (.sc (.int .i64 (.ofNat 0))), (.sc (.int .i64 (.ofNat 0))), (.sl .full 0 []), (.sl .full 0 []), (.sc (.int .i64 (.ofNat 165)))])⟩
theorem e89_ok {mx : Int} : EntOk Tryz.prog (HdU.G mx) e89 := HdU.entry (l := [e73, e75, e77, e79, e86, e88]) (m := 1000000) (AllOk.cons e73_ok (AllOk.cons e75_ok (AllOk.cons e77_ok (AllOk.cons e79_ok (AllOk.cons e86_ok (AllOk.cons e88_ok HdU.none)))))) (by kernel_rfl) (by kernel_rfl)
def e90 : Ent := ⟨27, [k25], none, (.tup [(.agg [(.sc (.int .i64 (.ofNat 1))), (strL []), (strL []), (.sc (.int .i64 (.ofNat 0))), (.sc (.int .i64 (.ofNat 0))), (.sc (.int .i64 (.ofNat 0))), (.sc (.int .i64 (.ofNat 0))), (.sc (.int .i64 (.ofNat 0))), (.sl .full 0 []), k44, (.sc (.int .i64 (.ofNat 0)))]), (.sl .full 0 [])])⟩
theorem e90_ok {mx : Int} : EntOk Tryz.prog (HdU.G mx) e90 := HdU.entry (l := [e13, e74, e76, e78, e80, e87, e89]) (m := 1000000) (AllOk.cons e13_ok (AllOk.cons e74_ok (AllOk.cons e76_ok (AllOk.cons e78_ok (AllOk.cons e80_ok (AllOk.cons e87_ok (AllOk.cons e89_ok HdU.none))))))) (by kernel_rfl) (by kernel_rfl)
def e91 : Ent := ⟨29, [(.agg [(.sc (.int .i64 (.ofNat 1))), (strL []), (strL []), (.sc (.int .i64 (.ofNat 0))), (.sc (.int .i64 (.ofNat 0))), (.sc (.int .i64 (.ofNat 0))), (.sc (.int .i64 (.ofNat 0))), (.sc (.int .i64 (.ofNat 0))), (.sl .full 0 []), k43, (.sc (.int .i64 (.ofNat 0)))])], none, (.sc (.bool true))⟩
theorem e91_ok {mx : Int} : EntOk Tryz.prog (HdU.G mx) e91 := HdU.entry (l := []) (m := 1000000) HdU.none (by kernel_rfl) (by kernel_rfl)
def e92 : Ent := ⟨16, [(.agg [(.sc (.int .i64 (.ofNat 1))), (strL []), (strL []), (.sc (.int .i64 (.ofNat 0))), (.sc (.int .i64 (.ofNat 0))), (.sc (.int .i64 (.ofNat 0))), (.sc (.int .i64 (.ofNat 0))), (.sc (.int .i64 (.ofNat 0))), (.sl .full 0 []), k43, (.sc (.int .i64 (.ofNat 0)))])], none, (.sl .full 0 [])⟩
theorem e92_ok {mx : Int} : EntOk Tryz.prog (HdU.G mx) e92 := HdU.entry (l := [e91]) (m := 1000000) (AllOk.cons e91_ok HdU.none) (by kernel_rfl) (by kernel_rfl)
def e93 : Ent := ⟨29, [(.agg [(.sc (.int .i64 (.ofNat 16))), (strL [43]), (strL []), (.sc (.int .i64 (.ofNat 0))), (.sc (.int .i64 (.ofNat 0))), (.sc (.int .i64 (.ofNat 0))), (.sc (.int .i64 (.ofNat 0))), (.sc (.int .i64 (.ofNat 0))), (.sl .full 0 []), k28, (.sc (.int .i64 (.ofNat 0)))])], none, (.sc (.bool true))⟩
theorem e93_ok {mx : Int} : EntOk Tryz.prog (HdU.G mx) e93 := HdU.entry (l := []) (m := 1000000) HdU.none (by kernel_rfl) (by kernel_rfl)
def e94 : Ent := ⟨13, [(.agg [(.sc (.int .i64 (.ofNat 1))), (strL []), (strL []), (.sc (.int .i64 (.ofNat 0))), (.sc (.int .i64 (.ofNat 0))), (.sc (.int .i64 (.ofNat 0))), (.sc (.int .i64 (.ofNat 0))), (.sc (.int .i64 (.ofNat 0))), (.sl .full 0 []), k43, (.sc (.int .i64 (.ofNat 0)))]), (.agg [(.sc (.int .i64 (.ofNat 16))), (strL [43]), (strL []), (.sc (.int .i64 (.ofNat 0))), (.sc (.int .i64 (.ofNat 0))), (.sc (.int .i64 (.ofNat 0))), (.sc (.int .i64 (.ofNat 0))), (.sc (.int .i64 (.ofNat 0))), (.sl .full 0 []), k28, (.sc (.int .i64 (.ofNat 0)))])], none, (.tup [(strL [69, 85, 82]), (.sl .full 0 [])])⟩
theorem e94_ok {mx : Int} : EntOk Tryz.prog (HdU.G mx) e94 := HdU.entry (l := [e91, e93]) (m := 1000000) (AllOk.cons e91_ok (AllOk.cons e93_ok HdU.none)) (by kernel_rfl) (by kernel_rfl)
def e95 : Ent := ⟨28, [(.agg [(.sc (.int .i64 (.ofNat 1))), (strL []), (strL []), (.sc (.int .i64 (.ofNat 0))), (.sc (.int .i64 (.ofNat 0))), (.sc (.int .i64 (.ofNat 0))), (.sc (.int .i64 (.ofNat 0))), (.sc (.int .i64 (.ofNat 0))), (.sl .full 0 []), k43, (.sc (.int .i64 (.ofNat 0)))]), k6, (strL [69, 85, 82]), (.sc (.int .i64 (.ofNat 0)))], none, (.sc (.bool true))⟩
theorem e95_ok {mx : Int} : EntOk Tryz.prog (HdU.G mx) e95 := HdU.entry (l := [e25, e94]) (m := 1000000) (AllOk.cons e25_ok (AllOk.cons e94_ok HdU.none)) (by kernel_rfl) (by kernel_rfl)
def e96 : Ent := ⟨29, [(.agg [(.sc (.int .i64 (.ofNat 16))), (strL [97, 110, 100]), (strL []), (.sc (.int .i64 (.ofNat 0))), (.sc (.int .i64 (.ofNat 0))), (.sc (.int .i64 (.ofNat 0))), (.sc (.int .i64 (.ofNat 0))), (.sc (.int .i64 (.ofNat 0))), (.sl .full 0 []), k30, (.sc (.int .i64 (.ofNat 0)))])], none, (.sc (.bool true))⟩
theorem e96_ok {mx : Int} : EntOk Tryz.prog (HdU.G mx) e96 := HdU.entry (l := []) (m := 1000000) HdU.none (by kernel_rfl) (by kernel_rfl)
def e97 : Ent := ⟨13, [(.agg [(.sc (.int .i64 (.ofNat 1))), (strL []), (strL []), (.sc (.int .i64 (.ofNat 0))), (.sc (.int .i64 (.ofNat 0))), (.sc (.int .i64 (.ofNat 0))), (.sc (.int .i64 (.ofNat 0))), (.sc (.int .i64 (.ofNat 0))), (.sl .full 0 []), k43, (.sc (.int .i64 (.ofNat 0)))]), (.agg [(.sc (.int .i64 (.ofNat 16))), (strL [97, 110, 100]), (strL []), (.sc (.int .i64 (.ofNat 0))), (.sc (.int .i64 (.ofNat 0))), (.sc (.int .i64 (.ofNat 0))), (.sc (.int .i64 (.ofNat 0))), (.sc (.int .i64 (.ofNat 0))), (.sl .full 0 []), k30, (.sc (.int .i64 (.ofNat 0)))])], none, (.tup [(strL [116, 114, 117, 116, 104]), (.sl .full 0 [])])⟩
theorem e97_ok {mx : Int} : EntOk Tryz.prog (HdU.G mx) e97 := HdU.entry (l := [e91, e96]) (m := 1000000) (AllOk.cons e91_ok (AllOk.cons e96_ok HdU.none)) (by kernel_rfl) (by kernel_rfl)
end Go.Proofs.YtkfplcngmiljaaaGreatDoor
namespace Go.Proofs.YtkfplcngmiljaaaGreatDoor
open AI
set_option maxRecDepth 100000
set_option maxHeartbeats 4000000
def e98 : Ent := ⟨28, [(.agg [(.sc (.int .i64 (.ofNat 1))), (strL []), (strL []), (.sc (.int .i64 (.ofNat 0))), (.sc (.int .i64 (.ofNat 0))), (.sc (.int .i64 (.ofNat 0))), (.sc (.int .i64 (.ofNat 0))), (.sc (.int .i64 (.ofNat 0))), (.sl .full 0 []), k43, (.sc (.int .i64 (.ofNat 0)))]), k8, (strL [116, 114, 117, 116, 104]), (.sc (.int .i64 (.ofNat 0)))], none, (.sc (.bool true))⟩
theorem e98_ok {mx : Int} : EntOk Tryz.prog (HdU.G mx) e98 := HdU.entry (l := [e28, e97]) (m := 1000000) (AllOk.cons e28_ok (AllOk.cons e97_ok HdU.none)) (by kernel_rfl) (by kernel_rfl)
def e99 : Ent := ⟨29, [(.agg [(.sc (.int .i64 (.ofNat 15))), (strL []), (strL []), (.sc (.int .i64 (.ofNat 0))), (.sc (.int .i64 (.ofNat 0))), (.sc (.int .i64 (.ofNat 0))), (.sc (.int .i64 (.ofNat 0))), (.sc (.int .i64 (.ofNat 0))), (.sl .full 0 []), k32, (.sc (.int .i64 (.ofNat 0)))])], none, (.sc (.bool true))⟩
theorem e99_ok {mx : Int} : EntOk Tryz.prog (HdU.G mx) e99 := HdU.entry (l := []) (m := 1000000) HdU.none (by kernel_rfl) (by kernel_rfl)
def e100 : Ent := ⟨13, [(.agg [(.sc (.int .i64 (.ofNat 1))), (strL []), (strL []), (.sc (.int .i64 (.ofNat 0))), (.sc (.int .i64 (.ofNat 0))), (.sc (.int .i64 (.ofNat 0))), (.sc (.int .i64 (.ofNat 0))), (.sc (.int .i64 (.ofNat 0))), (.sl .full 0 []), k43, (.sc (.int .i64 (.ofNat 0)))]), (.agg [(.sc (.int .i64 (.ofNat 15))), (strL []), (strL []), (.sc (.int .i64 (.ofNat 0))), (.sc (.int .i64 (.ofNat 0))), (.sc (.int .i64 (.ofNat 0))), (.sc (.int .i64 (.ofNat 0))), (.sc (.int .i64 (.ofNat 0))), (.sl .full 0 []), k32, (.sc (.int .i64 (.ofNat 0)))])], none, (.tup [(strL [116, 114, 117, 116, 104]), (.sl .full 0 [])])⟩
theorem e100_ok {mx : Int} : EntOk Tryz.prog (HdU.G mx) e100 := HdU.entry (l := [e91, e99]) (m := 1000000) (AllOk.cons e91_ok (AllOk.cons e99_ok HdU.none)) (by kernel_rfl) (by kernel_rfl)
def e101 : Ent := ⟨28, [(.agg [(.sc (.int .i64 (.ofNat 1))), (strL []), (strL []), (.sc (.int .i64 (.ofNat 0))), (.sc (.int .i64 (.ofNat 0))), (.sc (.int .i64 (.ofNat 0))), (.sc (.int .i64 (.ofNat 0))), (.sc (.int .i64 (.ofNat 0))), (.sl .full 0 []), k43, (.sc (.int .i64 (.ofNat 0)))]), k10, (strL [116, 114, 117, 116, 104]), (.sc (.int .i64 (.ofNat 0)))], none, (.sc (.bool true))⟩
theorem e101_ok {mx : Int} : EntOk Tryz.prog (HdU.G mx) e101 := HdU.entry (l := [e31, e100]) (m := 1000000) (AllOk.cons e31_ok (AllOk.cons e100_ok HdU.none)) (by kernel_rfl) (by kernel_rfl)
def e102 : Ent := ⟨29, [(.agg [(.sc (.int .i64 (.ofNat 16))), (strL [47]), (strL []), (.sc (.int .i64 (.ofNat 0))), (.sc (.int .i64 (.ofNat 0))), (.sc (.int .i64 (.ofNat 0))), (.sc (.int .i64 (.ofNat 0))), (.sc (.int .i64 (.ofNat 0))), (.sl .full 0 []), k34, (.sc (.int .i64 (.ofNat 0)))])], none, (.sc (.bool true))⟩
theorem e102_ok {mx : Int} : EntOk Tryz.prog (HdU.G mx) e102 := HdU.entry (l := []) (m := 1000000) HdU.none (by kernel_rfl) (by kernel_rfl)
def e103 : Ent := ⟨13, [(.agg [(.sc (.int .i64 (.ofNat 1))), (strL []), (strL []), (.sc (.int .i64 (.ofNat 0))), (.sc (.int .i64 (.ofNat 0))), (.sc (.int .i64 (.ofNat 0))), (.sc (.int .i64 (.ofNat 0))), (.sc (.int .i64 (.ofNat 0))), (.sl .full 0 []), k43, (.sc (.int .i64 (.ofNat 0)))]), (.agg [(.sc (.int .i64 (.ofNat 16))), (strL [47]), (strL []), (.sc (.int .i64 (.ofNat 0))), (.sc (.int .i64 (.ofNat 0))), (.sc (.int .i64 (.ofNat 0))), (.sc (.int .i64 (.ofNat 0))), (.sc (.int .i64 (.ofNat 0))), (.sl .full 0 []), k34, (.sc (.int .i64 (.ofNat 0)))])], none, (.tup [(strL [69, 85, 82]), (.sl .full 0 [])])⟩
theorem e103_ok {mx : Int} : EntOk Tryz.prog (HdU.G mx) e103 := HdU.entry (l := [e91, e102]) (m := 1000000) (AllOk.cons e91_ok (AllOk.cons e102_ok HdU.none)) (by kernel_rfl) (by kernel_rfl)
def e104 : Ent := ⟨28, [(.agg [(.sc (.int .i64 (.ofNat 1))), (strL []), (strL []), (.sc (.int .i64 (.ofNat 0))), (.sc (.int .i64 (.ofNat 0))), (.sc (.int .i64 (.ofNat 0))), (.sc (.int .i64 (.ofNat 0))), (.sc (.int .i64 (.ofNat 0))), (.sl .full 0 []), k43, (.sc (.int .i64 (.ofNat 0)))]), k12, (strL [69, 85, 82]), (.sc (.int .i64 (.ofNat 0)))], none, (.sc (.bool true))⟩
theorem e104_ok {mx : Int} : EntOk Tryz.prog (HdU.G mx) e104 := HdU.entry (l := [e34, e103]) (m := 1000000) (AllOk.cons e34_ok (AllOk.cons e103_ok HdU.none)) (by kernel_rfl) (by kernel_rfl)
def e105 : Ent := ⟨29, [(.agg [(.sc (.int .i64 (.ofNat 16))), (strL [42]), (strL []), (.sc (.int .i64 (.ofNat 0))), (.sc (.int .i64 (.ofNat 0))), (.sc (.int .i64 (.ofNat 0))), (.sc (.int .i64 (.ofNat 0))), (.sc (.int .i64 (.ofNat 0))), (.sl .full 0 []), k35, (.sc (.int .i64 (.ofNat 0)))])], none, (.sc (.bool true))⟩
theorem e105_ok {mx : Int} : EntOk Tryz.prog (HdU.G mx) e105 := HdU.entry (l := []) (m := 1000000) HdU.none (by kernel_rfl) (by kernel_rfl)
def e106 : Ent := ⟨13, [(.agg [(.sc (.int .i64 (.ofNat 1))), (strL []), (strL []), (.sc (.int .i64 (.ofNat 0))), (.sc (.int .i64 (.ofNat 0))), (.sc (.int .i64 (.ofNat 0))), (.sc (.int .i64 (.ofNat 0))), (.sc (.int .i64 (.ofNat 0))), (.sl .full 0 []), k43, (.sc (.int .i64 (.ofNat 0)))]), (.agg [(.sc (.int .i64 (.ofNat 16))), (strL [42]), (strL []), (.sc (.int .i64 (.ofNat 0))), (.sc (.int .i64 (.ofNat 0))), (.sc (.int .i64 (.ofNat 0))), (.sc (.int .i64 (.ofNat 0))), (.sc (.int .i64 (.ofNat 0))), (.sl .full 0 []), k35, (.sc (.int .i64 (.ofNat 0)))])], none, (.tup [k1, (.sl .full 0 [])])⟩
theorem e106_ok {mx : Int} : EntOk Tryz.prog (HdU.G mx) e106 := HdU.entry (l := [e91, e105]) (m := 1000000) (AllOk.cons e91_ok (AllOk.cons e105_ok HdU.none)) (by kernel_rfl) (by kernel_rfl)
def e107 : Ent := ⟨28, [(.agg [(.sc (.int .i64 (.ofNat 1))), (strL []), (strL []), (.sc (.int .i64 (.ofNat 0))), (.sc (.int .i64 (.ofNat 0))), (.sc (.int .i64 (.ofNat 0))), (.sc (.int .i64 (.ofNat 0))), (.sc (.int .i64 (.ofNat 0))), (.sl .full 0 []), k43, (.sc (.int .i64 (.ofNat 0)))]), k14, k1, (.sc (.int .i64 (.ofNat 0)))], none, (.sc (.bool true))⟩
theorem e107_ok {mx : Int} : EntOk Tryz.prog (HdU.G mx) e107 := HdU.entry (l := [e37, e106]) (m := 1000000) (AllOk.cons e37_ok (AllOk.cons e106_ok HdU.none)) (by kernel_rfl) (by kernel_rfl)
def e108 : Ent := ⟨29, [(.agg [(.sc (.int .i64 (.ofNat 16))), (strL [42]), (strL []), (.sc (.int .i64 (.ofNat 0))), (.sc (.int .i64 (.ofNat 0))), (.sc (.int .i64 (.ofNat 0))), (.sc (.int .i64 (.ofNat 0))), (.sc (.int .i64 (.ofNat 0))), (.sl .full 0 []), k36, (.sc (.int .i64 (.ofNat 0)))])], none, (.sc (.bool true))⟩
theorem e108_ok {mx : Int} : EntOk Tryz.prog (HdU.G mx) e108 := HdU.entry (l := []) (m := 1000000) HdU.none (by kernel_rfl) (by kernel_rfl)
def e109 : Ent := ⟨13, [(.agg [(.sc (.int .i64 (.ofNat 1))), (strL []), (strL []), (.sc (.int .i64 (.ofNat 0))), (.sc (.int .i64 (.ofNat 0))), (.sc (.int .i64 (.ofNat 0))), (.sc (.int .i64 (.ofNat 0))), (.sc (.int .i64 (.ofNat 0))), (.sl .full 0 []), k43, (.sc (.int .i64 (.ofNat 0)))]), (.agg [(.sc (.int .i64 (.ofNat 16))), (strL [42]), (strL []), (.sc (.int .i64 (.ofNat 0))), (.sc (.int .i64 (.ofNat 0))), (.sc (.int .i64 (.ofNat 0))), (.sc (.int .i64 (.ofNat 0))), (.sc (.int .i64 (.ofNat 0))), (.sl .full 0 []), k36, (.sc (.int .i64 (.ofNat 0)))])], none, (.tup [(strL []), (.sl .lost 1 [(.sc (.int .i64 (.ofNat 11))), (.sc (.int .i64 (.ofNat 0)))])])⟩
theorem e109_ok {mx : Int} : EntOk Tryz.prog (HdU.G mx) e109 := HdU.entry (l := [e91, e108]) (m := 1000000) (AllOk.cons e91_ok (AllOk.cons e108_ok HdU.none)) (by kernel_rfl) (by kernel_rfl)
def e110 : Ent := ⟨28, [(.agg [(.sc (.int .i64 (.ofNat 1))), (strL []), (strL []), (.sc (.int .i64 (.ofNat 0))), (.sc (.int .i64 (.ofNat 0))), (.sc (.int .i64 (.ofNat 0))), (.sc (.int .i64 (.ofNat 0))), (.sc (.int .i64 (.ofNat 0))), (.sl .full 0 []), k43, (.sc (.int .i64 (.ofNat 0)))]), k16, (strL []), (.sc (.int .i64 (.ofNat 11)))], none, (.sc (.bool true))⟩
theorem e110_ok {mx : Int} : EntOk Tryz.prog (HdU.G mx) e110 := HdU.entry (l := [e40, e109]) (m := 1000000) (AllOk.cons e40_ok (AllOk.cons e109_ok HdU.none)) (by kernel_rfl) (by kernel_rfl)
def e111 : Ent := ⟨29, [(.agg [(.sc (.int .i64 (.ofNat 16))), (strL [43]), (strL []), (.sc (.int .i64 (.ofNat 0))), (.sc (.int .i64 (.ofNat 0))), (.sc (.int .i64 (.ofNat 0))), (.sc (.int .i64 (.ofNat 0))), (.sc (.int .i64 (.ofNat 0))), (.sl .full 0 []), k37, (.sc (.int .i64 (.ofNat 0)))])], none, (.sc (.bool true))⟩
theorem e111_ok {mx : Int} : EntOk Tryz.prog (HdU.G mx) e111 := HdU.entry (l := []) (m := 1000000) HdU.none (by kernel_rfl) (by kernel_rfl)
def e112 : Ent := ⟨13, [(.agg [(.sc (.int .i64 (.ofNat 1))), (strL []), (strL []), (.sc (.int .i64 (.ofNat 0))), (.sc (.int .i64 (.ofNat 0))), (.sc (.int .i64 (.ofNat 0))), (.sc (.int .i64 (.ofNat 0))), (.sc (.int .i64 (.ofNat 0))), (.sl .full 0 []), k43, (.sc (.int .i64 (.ofNat 0)))]), (.agg [(.sc (.int .i64 (.ofNat 16))), (strL [43]), (strL []), (.sc (.int .i64 (.ofNat 0))), (.sc (.int .i64 (.ofNat 0))), (.sc (.int .i64 (.ofNat 0))), (.sc (.int .i64 (.ofNat 0))), (.sc (.int .i64 (.ofNat 0))), (.sl .full 0 []), k37, (.sc (.int .i64 (.ofNat 0)))])], none, (.tup [(strL []), (.sl .lost 1 [(.sc (.int .i64 (.ofNat 11))), (.sc (.int .i64 (.ofNat 0)))])])⟩
theorem e112_ok {mx : Int} : EntOk Tryz.prog (HdU.G mx) e112 := HdU.entry (l := [e91, e111]) (m := 1000000) (AllOk.cons e91_ok (AllOk.cons e111_ok HdU.none)) (by kernel_rfl) (by kernel_rfl)
def e113 : Ent := ⟨28, [(.agg [(.sc (.int .i64 (.ofNat 1))), (strL []), (strL []), (.sc (.int .i64 (.ofNat 0))), (.sc (.int .i64 (.ofNat 0))), (.sc (.int .i64 (.ofNat 0))), (.sc (.int .i64 (.ofNat 0))), (.sc (.int .i64 (.ofNat 0))), (.sl .full 0 []), k43, (.sc (.int .i64 (.ofNat 0)))]), k18, (strL []), (.sc (.int .i64 (.ofNat 11)))], none, (.sc (.bool true))⟩
theorem e113_ok {mx : Int} : EntOk Tryz.prog (HdU.G mx) e113 := HdU.entry (l := [e43, e112]) (m := 1000000) (AllOk.cons e43_ok (AllOk.cons e112_ok HdU.none)) (by kernel_rfl) (by kernel_rfl)
def e114 : Ent := ⟨29, [(.agg [(.sc (.int .i64 (.ofNat 16))), (strL [43]), (strL []), (.sc (.int .i64 (.ofNat 0))), (.sc (.int .i64 (.ofNat 0))), (.sc (.int .i64 (.ofNat 0))), (.sc (.int .i64 (.ofNat 0))), (.sc (.int .i64 (.ofNat 0))), (.sl .full 0 []), k38, (.sc (.int .i64 (.ofNat 0)))])], none, (.sc (.bool true))⟩
theorem e114_ok {mx : Int} : EntOk Tryz.prog (HdU.G mx) e114 := HdU.entry (l := []) (m := 1000000) HdU.none (by kernel_rfl) (by kernel_rfl)
def e115 : Ent := ⟨13, [(.agg [(.sc (.int .i64 (.ofNat 1))), (strL []), (strL []), (.sc (.int .i64 (.ofNat 0))), (.sc (.int .i64 (.ofNat 0))), (.sc (.int .i64 (.ofNat 0))), (.sc (.int .i64 (.ofNat 0))), (.sc (.int .i64 (.ofNat 0))), (.sl .full 0 []), k43, (.sc (.int .i64 (.ofNat 0)))]), (.agg [(.sc (.int .i64 (.ofNat 16))), (strL [43]), (strL []), (.sc (.int .i64 (.ofNat 0))), (.sc (.int .i64 (.ofNat 0))), (.sc (.int .i64 (.ofNat 0))), (.sc (.int .i64 (.ofNat 0))), (.sc (.int .i64 (.ofNat 0))), (.sl .full 0 []), k38, (.sc (.int .i64 (.ofNat 0)))])], none, (.tup [(strL []), (.sl .lost 1 [(.sc (.int .i64 (.ofNat 91))), (.sc (.int .i64 (.ofNat 0)))])])⟩
theorem e115_ok {mx : Int} : EntOk Tryz.prog (HdU.G mx) e115 := HdU.entry (l := [e91, e114]) (m := 1000000) (AllOk.cons e91_ok (AllOk.cons e114_ok HdU.none)) (by kernel_rfl) (by kernel_rfl)
end Go.Proofs.YtkfplcngmiljaaaGreatDoor
namespace Go.Proofs.YtkfplcngmiljaaaGreatDoor
open AI
set_option maxRecDepth 100000
set_option maxHeartbeats 4000000
def e116 : Ent := ⟨28, [(.agg [(.sc (.int .i64 (.ofNat 1))), (strL []), (strL []), (.sc (.int .i64 (.ofNat 0))), (.sc (.int .i64 (.ofNat 0))), (.sc (.int .i64 (.ofNat 0))), (.sc (.int .i64 (.ofNat 0))), (.sc (.int .i64 (.ofNat 0))), (.sl .full 0 []), k43, (.sc (.int .i64 (.ofNat 0)))]), (strL [120, 32, 43, 32, 49]), (strL []), (.sc (.int .i64 (.ofNat 91)))], none, (.sc (.bool true))⟩
theorem e116_ok {mx : Int} : EntOk Tryz.prog (HdU.G mx) e116 := HdU.entry (l := [e46, e115]) (m := 1000000) (AllOk.cons e46_ok (AllOk.cons e115_ok HdU.none)) (by kernel_rfl) (by kernel_rfl)
def e117 : Ent := ⟨29, [(.agg [(.sc (.int .i64 (.ofNat 13))), (strL []), (strL []), (.sc (.int .i64 (.ofNat 2))), (.sc (.int .i64 (.ofNat 0))), (.sc (.int .i64 (.ofNat 0))), (.sc (.int .i64 (.ofNat 0))), (.sc (.int .i64 (.ofNat 0))), (.sl .full 0 []), (.sl .full 0 []), (.sc (.int .i64 (.ofNat 0)))])], none, (.sc (.bool true))⟩
theorem e117_ok {mx : Int} : EntOk Tryz.prog (HdU.G mx) e117 := HdU.entry (l := []) (m := 1000000) HdU.none (by kernel_rfl) (by kernel_rfl)
def e118 : Ent := ⟨13, [(.agg [(.sc (.int .i64 (.ofNat 1))), (strL []), (strL []), (.sc (.int .i64 (.ofNat 0))), (.sc (.int .i64 (.ofNat 0))), (.sc (.int .i64 (.ofNat 0))), (.sc (.int .i64 (.ofNat 0))), (.sc (.int .i64 (.ofNat 0))), (.sl .full 0 []), k43, (.sc (.int .i64 (.ofNat 0)))]), (.agg [(.sc (.int .i64 (.ofNat 13))), (strL []), (strL []), (.sc (.int .i64 (.ofNat 2))), (.sc (.int .i64 (.ofNat 0))), (.sc (.int .i64 (.ofNat 0))), (.sc (.int .i64 (.ofNat 0))), (.sc (.int .i64 (.ofNat 0))), (.sl .full 0 []), (.sl .full 0 []), (.sc (.int .i64 (.ofNat 0)))])], none, (.tup [(strL []), (.sl .lost 1 [(.sc (.int .i64 (.ofNat 91))), (.sc (.int .i64 (.ofNat 0)))])])⟩
theorem e118_ok {mx : Int} : EntOk Tryz.prog (HdU.G mx) e118 := HdU.entry (l := [e91, e117]) (m := 1000000) (AllOk.cons e91_ok (AllOk.cons e117_ok HdU.none)) (by kernel_rfl) (by kernel_rfl)
def e119 : Ent := ⟨28, [(.agg [(.sc (.int .i64 (.ofNat 1))), (strL []), (strL []), (.sc (.int .i64 (.ofNat 0))), (.sc (.int .i64 (.ofNat 0))), (.sc (.int .i64 (.ofNat 0))), (.sc (.int .i64 (.ofNat 0))), (.sc (.int .i64 (.ofNat 0))), (.sl .full 0 []), k43, (.sc (.int .i64 (.ofNat 0)))]), (strL [97, 114, 116, 32, 50]), (strL []), (.sc (.int .i64 (.ofNat 91)))], none, (.sc (.bool true))⟩
theorem e119_ok {mx : Int} : EntOk Tryz.prog (HdU.G mx) e119 := HdU.entry (l := [e49, e118]) (m := 1000000) (AllOk.cons e49_ok (AllOk.cons e118_ok HdU.none)) (by kernel_rfl) (by kernel_rfl)
def e120 : Ent := ⟨29, [(.agg [(.sc (.int .i64 (.ofNat 18))), (strL []), (strL []), (.sc (.int .i64 (.ofNat 0))), (.sc (.int .i64 (.ofNat 0))), (.sc (.int .i64 (.ofNat 0))), (.sc (.int .i64 (.ofNat 0))), (.sc (.int .i64 (.ofNat 10))), (.sl .lost 1 [(.sc (.int .i64 (.ofNat 0))), (.sc (.int .i64 (.ofNat 0))), (.sc (.int .i64 (.ofNat 1)))]), k39, (.sc (.int .i64 (.ofNat 0)))])], none, (.sc (.bool true))⟩
theorem e120_ok {mx : Int} : EntOk Tryz.prog (HdU.G mx) e120 := HdU.entry (l := []) (m := 1000000) HdU.none (by kernel_rfl) (by kernel_rfl)
def e121 : Ent := ⟨13, [(.agg [(.sc (.int .i64 (.ofNat 1))), (strL []), (strL []), (.sc (.int .i64 (.ofNat 0))), (.sc (.int .i64 (.ofNat 0))), (.sc (.int .i64 (.ofNat 0))), (.sc (.int .i64 (.ofNat 0))), (.sc (.int .i64 (.ofNat 0))), (.sl .full 0 []), k43, (.sc (.int .i64 (.ofNat 0)))]), (.agg [(.sc (.int .i64 (.ofNat 18))), (strL []), (strL []), (.sc (.int .i64 (.ofNat 0))), (.sc (.int .i64 (.ofNat 0))), (.sc (.int .i64 (.ofNat 0))), (.sc (.int .i64 (.ofNat 0))), (.sc (.int .i64 (.ofNat 10))), (.sl .lost 1 [(.sc (.int .i64 (.ofNat 0))), (.sc (.int .i64 (.ofNat 0))), (.sc (.int .i64 (.ofNat 1)))]), k39, (.sc (.int .i64 (.ofNat 0)))])], none, (.tup [(strL []), (.sl .lost 1 [(.sc (.int .i64 (.ofNat 11))), (.sc (.int .i64 (.ofNat 0)))])])⟩
theorem e121_ok {mx : Int} : EntOk Tryz.prog (HdU.G mx) e121 := HdU.entry (l := [e91, e120]) (m := 1000000) (AllOk.cons e91_ok (AllOk.cons e120_ok HdU.none)) (by kernel_rfl) (by kernel_rfl)
def e122 : Ent := ⟨28, [(.agg [(.sc (.int .i64 (.ofNat 1))), (strL []), (strL []), (.sc (.int .i64 (.ofNat 0))), (.sc (.int .i64 (.ofNat 0))), (.sc (.int .i64 (.ofNat 0))), (.sc (.int .i64 (.ofNat 0))), (.sc (.int .i64 (.ofNat 0))), (.sl .full 0 []), k43, (.sc (.int .i64 (.ofNat 0)))]), k21, (strL []), (.sc (.int .i64 (.ofNat 11)))], none, (.sc (.bool true))⟩
theorem e122_ok {mx : Int} : EntOk Tryz.prog (HdU.G mx) e122 := HdU.entry (l := [e52, e121]) (m := 1000000) (AllOk.cons e52_ok (AllOk.cons e121_ok HdU.none)) (by kernel_rfl) (by kernel_rfl)
def e123 : Ent := ⟨29, [(.agg [(.sc (.int .i64 (.ofNat 17))), (strL [108, 101, 97, 115, 116]), (strL []), (.sc (.int .i64 (.ofNat 0))), (.sc (.int .i64 (.ofNat 0))), (.sc (.int .i64 (.ofNat 0))), (.sc (.int .i64 (.ofNat 0))), (.sc (.int .i64 (.ofNat 0))), (.sl .full 0 []), k40, (.sc (.int .i64 (.ofNat 0)))])], none, (.sc (.bool true))⟩
theorem e123_ok {mx : Int} : EntOk Tryz.prog (HdU.G mx) e123 := HdU.entry (l := []) (m := 1000000) HdU.none (by kernel_rfl) (by kernel_rfl)
def e124 : Ent := ⟨13, [(.agg [(.sc (.int .i64 (.ofNat 1))), (strL []), (strL []), (.sc (.int .i64 (.ofNat 0))), (.sc (.int .i64 (.ofNat 0))), (.sc (.int .i64 (.ofNat 0))), (.sc (.int .i64 (.ofNat 0))), (.sc (.int .i64 (.ofNat 0))), (.sl .full 0 []), k43, (.sc (.int .i64 (.ofNat 0)))]), (.agg [(.sc (.int .i64 (.ofNat 17))), (strL [108, 101, 97, 115, 116]), (strL []), (.sc (.int .i64 (.ofNat 0))), (.sc (.int .i64 (.ofNat 0))), (.sc (.int .i64 (.ofNat 0))), (.sc (.int .i64 (.ofNat 0))), (.sc (.int .i64 (.ofNat 0))), (.sl .full 0 []), k40, (.sc (.int .i64 (.ofNat 0)))])], none, (.tup [(strL [69, 85, 82]), (.sl .full 0 [])])⟩
theorem e124_ok {mx : Int} : EntOk Tryz.prog (HdU.G mx) e124 := HdU.entry (l := [e91, e123]) (m := 1000000) (AllOk.cons e91_ok (AllOk.cons e123_ok HdU.none)) (by kernel_rfl) (by kernel_rfl)
def e125 : Ent := ⟨28, [(.agg [(.sc (.int .i64 (.ofNat 1))), (strL []), (strL []), (.sc (.int .i64 (.ofNat 0))), (.sc (.int .i64 (.ofNat 0))), (.sc (.int .i64 (.ofNat 0))), (.sc (.int .i64 (.ofNat 0))), (.sc (.int .i64 (.ofNat 0))), (.sl .full 0 []), k43, (.sc (.int .i64 (.ofNat 0)))]), k23, (strL [69, 85, 82]), (.sc (.int .i64 (.ofNat 0)))], none, (.sc (.bool true))⟩
theorem e125_ok {mx : Int} : EntOk Tryz.prog (HdU.G mx) e125 := HdU.entry (l := [e55, e124]) (m := 1000000) (AllOk.cons e55_ok (AllOk.cons e124_ok HdU.none)) (by kernel_rfl) (by kernel_rfl)
def e126 : Ent := ⟨29, [(.agg [(.sc (.int .i64 (.ofNat 1))), (strL []), (strL []), (.sc (.int .i64 (.ofNat 0))), (.sc (.int .i64 (.ofNat 0))), (.sc (.int .i64 (.ofNat 0))), (.sc (.int .i64 (.ofNat 0))), (.sc (.int .i64 (.ofNat 0))), (.sl .full 0 []), k44, (.sc (.int .i64 (.ofNat 0)))])], none, (.sc (.bool true))⟩
theorem e126_ok {mx : Int} : EntOk Tryz.prog (HdU.G mx) e126 := HdU.entry (l := []) (m := 1000000) HdU.none (by kernel_rfl) (by kernel_rfl)
def e127 : Ent := ⟨16, [(.agg [(.sc (.int .i64 (.ofNat 1))), (strL []), (strL []), (.sc (.int .i64 (.ofNat 0))), (.sc (.int .i64 (.ofNat 0))), (.sc (.int .i64 (.ofNat 0))), (.sc (.int .i64 (.ofNat 0))), (.sc (.int .i64 (.ofNat 0))), (.sl .full 0 []), k44, (.sc (.int .i64 (.ofNat 0)))])], none, (.sl .lost 1 [(.sc (.int .i64 (.ofNat 5))), (.sc (.int .i64 (.ofNat 165)))])⟩
theorem e127_ok {mx : Int} : EntOk Tryz.prog (HdU.G mx) e127 := HdU.entry (l := [e126]) (m := 1000000) (AllOk.cons e126_ok HdU.none) (by kernel_rfl) (by kernel_rfl)
def e128 : Ent := ⟨11, [], none, (.sc (.bool true))⟩
theorem e128_ok {mx : Int} : EntOk Tryz.prog (HdU.G mx) e128 := HdU.entry (l := [e72, e90, e92, e95, e98, e101, e104, e107, e110, e113, e116, e119, e122, e125, e127]) (m := 1000000) (AllOk.cons e72_ok (AllOk.cons e90_ok (AllOk.cons e92_ok (AllOk.cons e95_ok (AllOk.cons e98_ok (AllOk.cons e101_ok (AllOk.cons e104_ok (AllOk.cons e107_ok (AllOk.cons e110_ok (AllOk.cons e113_ok (AllOk.cons e116_ok (AllOk.cons e119_ok (AllOk.cons e122_ok (AllOk.cons e125_ok (AllOk.cons e127_ok HdU.none))))))))))))))) (by kernel_rfl) (by kernel_rfl)
theorem head_ok (mx : Int) (s : AS) : Sound Tryz.prog (HdU.G mx) (.call 11 [] s (.ret (.sc (.bool true))) s) := (e128_ok : EntOk Tryz.prog (HdU.G mx) e128) s
end Go.Proofs.YtkfplcngmiljaaaGreatDoor
namespace Go.Proofs.YtkfplcngmiljaaaGreatDoor
open AI Go
namespace Mo
set_option maxRecDepth 100000
set_option maxHeartbeats 4000000
abbrev GU (mx : Int) : Glob := HdU.G mx
theorem up {mx : Int} {f : FuncId} {args : List AV} {v : AV} (h : Pure P G f args v) : Pure P (GU mx) f args v := by
 intro s cx w vs hs ha
 have hs0 : St G cx w s := ⟨hs.len, hs.desc, hs.nodup, hs.low, hs.box, hs.rlen, hs.row, hs.rfree, hs.plow, hs.blow, hs.rdist, (fun _ _ h => nomatch h), hs.bsz⟩
 refine (h s cx w vs hs0 ha).mono ?_
 rintro e w' ⟨c', hx, st, hr⟩
 exact ⟨c', hx, ⟨st.len, st.desc, st.nodup, st.low, st.box, st.rlen, st.row, st.rfree, st.plow, st.blow, st.rdist, (fun g cs h => (hs.glob g cs h).mono hx), st.bsz⟩, hr⟩
noncomputable def law09_head_R : Option Bool := some true
theorem law09_head_ok {mx : Int} (yR : Bool) (h : law09_head_R = some yR) : Pure P (GU mx) 11 [] (.sc (.bool yR)) := by
 cases h
 exact fun s => head_ok mx s
variable {mx : Int}
noncomputable def B7 : Code := bodyOf Tryz.f7
theorem b7 : Tryz.f7.body = some B7 := by kernel_rfl
noncomputable def law09_UnitsLocality_B  (source : Nd) (e : Nd) : Option Bool := (law09_head_R).bind fun y1 => (law09_few_B source e).bind fun y2 => cond y2 ((ref09_Source_B source).bind fun y3 => cond y3 ((units_Infer_B source e).bind fun (y4a, y4b) => (law09_bare_B source).bind fun y5 => (units_Infer_B y5 e).bind fun (y6a, y6b) => cond y1 (cond (eqB y4a.data.toList y6a.data.toList) ((ref07_SameDiags_B y4b y6b).bind fun y7 => some y7) (some false)) (some false)) (some y1)) (some y1)
theorem law09_UnitsLocality_step   (source : Nd) (e : Nd) (yR : Bool) (h : law09_UnitsLocality_B  source e = some yR) : Pure P (GU mx) 7 [.agg (ndC source), .agg (ndC e)] (.sc (.bool yR)) := by
 unfold law09_UnitsLocality_B at h
 refine pureM Hd.mixed HdU.plainG (WC_body Tryz.func7 b7 ?_) (plC (layNd.plG source) (plC (layNd.plG e) rfl)) rfl
 revert h
 refine bndI fun y1 hy1 => ?_
 refine bndI fun y2 hy2 => ?_
 refine cndI (fun hv => ?_) fun hv => ?_
 subst hv
 refine bndI fun y3 hy3 => ?_
 refine cndI (fun hv => ?_) fun hv => ?_
 subst hv
 refine bndI ?_
 rintro ⟨y4a, y4b⟩ hy4
 dsimp only
 refine bndI fun y5 hy5 => ?_
 refine bndI ?_
 rintro ⟨y6a, y6b⟩ hy6
 dsimp only
 refine cndI (fun hv => ?_) fun hv => ?_
 subst hv
 let o1 : List (PC P (GU mx)) := [pcall (law09_head_ok  true hy1), pcall (up (law09_few_step source e true hy2)), pcall (up (ref09_Source_step source true hy3)), pcall (up (units_Infer_step source e (y4a, y4b) hy4)), pcall (up (law09_bare_step source y5 hy5)), pcall (up (units_Infer_step y5 e (y6a, y6b) hy6))]
 refine cndI (fun hb1 => ?_) fun hb1 => ?_
 refine bndI fun y7 hy7 => ?_
 intro h
 have hE := Option.some.inj h
 subst hE
 exact rS (runS 300 (o1 ++ [pb hb1, pcall (up (ref07_SameDiags_step y4b y6b y7 hy7))])) (by kernel_rfl)
 rintro ⟨⟩
 exact rS (runS 300 (o1 ++ [pb hb1])) (by kernel_rfl)
 subst hv
 rintro ⟨⟩
 exact rS (runS 300 [pcall (law09_head_ok  false hy1), pcall (up (law09_few_step source e true hy2)), pcall (up (ref09_Source_step source true hy3)), pcall (up (units_Infer_step source e (y4a, y4b) hy4)), pcall (up (law09_bare_step source y5 hy5)), pcall (up (units_Infer_step y5 e (y6a, y6b) hy6))]) (by kernel_rfl)
 subst hv
 intro h
 have hE := Option.some.inj h
 subst hE
 exact rS (runS 300 [pcall (law09_head_ok  y1 hy1), pcall (up (law09_few_step source e true hy2)), pcall (up (ref09_Source_step source false hy3))]) (by kernel_rfl)
 subst hv
 intro h
 have hE := Option.some.inj h
 subst hE
 exact rS (runS 300 [pcall (law09_head_ok  y1 hy1), pcall (up (law09_few_step source e false hy2))]) (by kernel_rfl)
end Mo
end Go.Proofs.YtkfplcngmiljaaaGreatDoor
