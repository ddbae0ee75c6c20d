/- Part of a proof: see the last text. -/
import Derived.Test.YtkfplcngmiljaaaGreatDoorUoq
import Derived.Shelf.Strconv.Atoi
import Derived.Shelf.Strings.Replace
import Derived.Test.YtkfplcngmiljaaaGreatDoorProg
set_option linter.unusedVariables false
set_option linter.unusedSimpArgs false
namespace Go.Proofs
open Go.Shelf
def Tryz.QL:Go.Shelf.Ren:=⟨fun | 172=>137 | 244=>144 | 245=>145 | 247=>155 | 279=>156 | 280=>157 | 281=>158 | 282=>159 | 287=>169 | 316=>170 | 171=>172 | 205=>171 | 321=>183 | 322=>184 | 243=>185 | 246=>190 | 283=>191 | 284=>192 | 285=>193 | 286=>194 | 129=>196 | 317=>195 | 318=>197 | 319=>198 | 320=>199 | 337=>200 | 338=>201 | n=>n,fun | 9=>9 | 3=>3 | 75=>152 | 76=>153 | 4=>4 | 5=>5 | 167=>173 | 37=>42 | 0=>0 | 85=>174 | 2=>2 | 168=>176 | 53=>187 | 175=>188 | 46=>190 | 210=>192 | 127=>186 | 145=>207 | 143=>205 | 21=>21 | 171=>212 | 173=>215 | 212=>218 | 51=>208 | 20=>20 | 213=>219 | 232=>222 | 233=>223 | 80=>172 | n=>n,fun | 15=>4 | 16=>5 | 17=>10 | 18=>11 | 19=>12 | n=>n⟩
theorem Tryz.aP:Go.Proofs.Lays.n172 Tryz.prog Tryz.QL:={
 mixed:=by kernel_rfl
 f129:=Tryz.func196.trans (congrArg some (by kernel_rfl))
 f171:=Tryz.func172.trans (congrArg some (by kernel_rfl))
 f172:=Tryz.func137.trans (congrArg some (by kernel_rfl))
 f205:=Tryz.func171.trans (congrArg some (by kernel_rfl))
 f243:=Tryz.func185.trans (congrArg some (by kernel_rfl))
 f244:=Tryz.func144.trans (congrArg some (by kernel_rfl))
 f245:=Tryz.func145.trans (congrArg some (by kernel_rfl))
 f246:=Tryz.func190.trans (congrArg some (by kernel_rfl))
 f247:=Tryz.func155.trans (congrArg some (by kernel_rfl))
 f279:=Tryz.func156.trans (congrArg some (by kernel_rfl))
 f280:=Tryz.func157.trans (congrArg some (by kernel_rfl))
 f281:=Tryz.func158.trans (congrArg some (by kernel_rfl))
 f282:=Tryz.func159.trans (congrArg some (by kernel_rfl))
 f283:=Tryz.func191.trans (congrArg some (by kernel_rfl))
 f284:=Tryz.func192.trans (congrArg some (by kernel_rfl))
 f285:=Tryz.func193.trans (congrArg some (by kernel_rfl))
 f286:=Tryz.func194.trans (congrArg some (by kernel_rfl))
 f287:=Tryz.func169.trans (congrArg some (by kernel_rfl))
 f316:=Tryz.func170.trans (congrArg some (by kernel_rfl))
 f317:=Tryz.func195.trans (congrArg some (by kernel_rfl))
 f318:=Tryz.func197.trans (congrArg some (by kernel_rfl))
 f319:=Tryz.func198.trans (congrArg some (by kernel_rfl))
 f320:=Tryz.func199.trans (congrArg some (by kernel_rfl))
 f321:=Tryz.func183.trans (congrArg some (by kernel_rfl))
 f322:=Tryz.func184.trans (congrArg some (by kernel_rfl))
 f337:=Tryz.func200.trans (congrArg some (by kernel_rfl))
 f338:=Tryz.func201.trans (congrArg some (by kernel_rfl))
 t0:=Tryz.underlying0
 a0:=Tryz.isAgg0
 z0:=Tryz.sizeOf0
 v0:=Tryz.zeroValue0
 t2:=Tryz.underlying2
 a2:=Tryz.isAgg2
 z2:=Tryz.sizeOf2
 v2:=Tryz.zeroValue2
 t3:=Tryz.underlying3
 a3:=Tryz.isAgg3
 z3:=Tryz.sizeOf3
 v3:=Tryz.zeroValue3
 t4:=Tryz.underlying4
 a4:=Tryz.isAgg4
 z4:=Tryz.sizeOf4
 v4:=Tryz.zeroValue4
 t5:=Tryz.underlying5
 a5:=Tryz.isAgg5
 z5:=Tryz.sizeOf5
 v5:=Tryz.zeroValue5
 t9:=Tryz.underlying9
 a9:=Tryz.isAgg9
 z9:=Tryz.sizeOf9
 v9:=Tryz.zeroValue9
 t20:=Tryz.underlying20
 a20:=Tryz.isAgg20
 z20:=Tryz.sizeOf20
 v20:=Tryz.zeroValue20
 t21:=Tryz.underlying21
 a21:=Tryz.isAgg21
 z21:=Tryz.sizeOf21
 v21:=Tryz.zeroValue21
 t37:=Tryz.underlying42
 a37:=Tryz.isAgg42
 z37:=Tryz.sizeOf42
 v37:=Tryz.zeroValue42
 t46:=Tryz.underlying190
 a46:=Tryz.isAgg190
 z46:=Tryz.sizeOf190
 v46:=Tryz.zeroValue190
 t51:=Tryz.underlying208
 a51:=Tryz.isAgg208
 z51:=Tryz.sizeOf208
 v51:=Tryz.zeroValue208
 t53:=Tryz.underlying187
 a53:=Tryz.isAgg187
 z53:=Tryz.sizeOf187
 v53:=Tryz.zeroValue187
 t75:=Tryz.underlying152
 a75:=Tryz.isAgg152
 z75:=Tryz.sizeOf152
 v75:=Tryz.zeroValue152
 t76:=Tryz.underlying153
 a76:=Tryz.isAgg153
 z76:=Tryz.sizeOf153
 v76:=Tryz.zeroValue153
 t85:=Tryz.underlying174
 a85:=Tryz.isAgg174
 z85:=Tryz.sizeOf174
 v85:=Tryz.zeroValue174
 t127:=Tryz.underlying186
 a127:=Tryz.isAgg186
 z127:=Tryz.sizeOf186
 v127:=Tryz.zeroValue186
 t143:=Tryz.underlying205
 a143:=Tryz.isAgg205
 z143:=Tryz.sizeOf205
 v143:=Tryz.zeroValue205
 t145:=Tryz.underlying207
 a145:=Tryz.isAgg207
 z145:=Tryz.sizeOf207
 v145:=Tryz.zeroValue207
 t167:=Tryz.underlying173
 a167:=Tryz.isAgg173
 z167:=Tryz.sizeOf173
 v167:=Tryz.zeroValue173
 t168:=Tryz.underlying176
 a168:=Tryz.isAgg176
 z168:=Tryz.sizeOf176
 v168:=Tryz.zeroValue176
 t171:=Tryz.underlying212
 a171:=Tryz.isAgg212
 z171:=Tryz.sizeOf212
 v171:=Tryz.zeroValue212
 t173:=Tryz.underlying215
 a173:=Tryz.isAgg215
 z173:=Tryz.sizeOf215
 v173:=Tryz.zeroValue215
 t175:=Tryz.underlying188
 a175:=Tryz.isAgg188
 z175:=Tryz.sizeOf188
 v175:=Tryz.zeroValue188
 t210:=Tryz.underlying192
 a210:=Tryz.isAgg192
 z210:=Tryz.sizeOf192
 v210:=Tryz.zeroValue192
 t212:=Tryz.underlying218
 a212:=Tryz.isAgg218
 z212:=Tryz.sizeOf218
 v212:=Tryz.zeroValue218
 t213:=Tryz.underlying219
 a213:=Tryz.isAgg219
 z213:=Tryz.sizeOf219
 t232:=Tryz.underlying222
 a232:=Tryz.isAgg222
 z232:=Tryz.sizeOf222
 v232:=Tryz.zeroValue222
 t233:=Tryz.underlying223
 a233:=Tryz.isAgg223
 z233:=Tryz.sizeOf223
 v233:=Tryz.zeroValue223
 g15:=by kernel_rfl
 g16:=by kernel_rfl
 g17:=by kernel_rfl
 g18:=by kernel_rfl
 g19:=by kernel_rfl }
open Go.RowKit in
theorem Tryz.strconv_Atoi (s:ByteArray) (n:Int) (hl:s.size≤18) (h:Lib.atoi s.data.toList=some n) (w:World) :
   Calls Tryz.prog 137 #[.string s] w fun e w'=>e=.returned (.tuple #[.int .i64 n,.nilIface])∧∃ t,w'=Lib.bytesWorld w 5 t:=Any.strconv_Atoi Tryz.aP s n hl h w
def Tryz.Ls:Go.Shelf.Ren:=⟨fun | 154=>143 | 138=>149 | 165=>150 | 143=>151 | 166=>152 | 197=>153 | 169=>154 | 195=>163 | 218=>164 | 240=>165 | 241=>166 | 219=>167 | 260=>168 | 276=>177 | 277=>178 | 217=>179 | 225=>180 | 224=>181 | 267=>182 | 266=>188 | 314=>189 | n=>n,fun | 9=>9 | 3=>3 | 4=>4 | 72=>168 | 0=>0 | 76=>153 | 105=>170 | 21=>21 | 5=>5 | 70=>166 | 20=>20 | 37=>42 | 75=>152 | 127=>186 | 164=>197 | 46=>190 | 119=>200 | 139=>203 | 138=>202 | 146=>209 | 51=>208 | 80=>172 | n=>n,fun | 1=>7 | 3=>8 | 4=>9 | n=>n⟩
theorem Tryz.cI:Go.Proofs.Lays.n154 Tryz.prog Tryz.Ls:={
 mixed:=by kernel_rfl
 f138:=Tryz.func149.trans (congrArg some (by kernel_rfl))
 f143:=Tryz.func151.trans (congrArg some (by kernel_rfl))
 f154:=Tryz.func143.trans (congrArg some (by kernel_rfl))
 f165:=Tryz.func150.trans (congrArg some (by kernel_rfl))
 f166:=Tryz.func152.trans (congrArg some (by kernel_rfl))
 f169:=Tryz.func154.trans (congrArg some (by kernel_rfl))
 f195:=Tryz.func163.trans (congrArg some (by kernel_rfl))
 f197:=Tryz.func153.trans (congrArg some (by kernel_rfl))
 f217:=Tryz.func179.trans (congrArg some (by kernel_rfl))
 f218:=Tryz.func164.trans (congrArg some (by kernel_rfl))
 f219:=Tryz.func167.trans (congrArg some (by kernel_rfl))
 f224:=Tryz.func181.trans (congrArg some (by kernel_rfl))
 f225:=Tryz.func180.trans (congrArg some (by kernel_rfl))
 f240:=Tryz.func165.trans (congrArg some (by kernel_rfl))
 f241:=Tryz.func166.trans (congrArg some (by kernel_rfl))
 f260:=Tryz.func168.trans (congrArg some (by kernel_rfl))
 f266:=Tryz.func188.trans (congrArg some (by kernel_rfl))
 f267:=Tryz.func182.trans (congrArg some (by kernel_rfl))
 f276:=Tryz.func177.trans (congrArg some (by kernel_rfl))
 f277:=Tryz.func178.trans (congrArg some (by kernel_rfl))
 f314:=Tryz.func189.trans (congrArg some (by kernel_rfl))
 t0:=Tryz.underlying0
 a0:=Tryz.isAgg0
 z0:=Tryz.sizeOf0
 v0:=Tryz.zeroValue0
 t3:=Tryz.underlying3
 a3:=Tryz.isAgg3
 z3:=Tryz.sizeOf3
 v3:=Tryz.zeroValue3
 t4:=Tryz.underlying4
 a4:=Tryz.isAgg4
 z4:=Tryz.sizeOf4
 v4:=Tryz.zeroValue4
 t5:=Tryz.underlying5
 a5:=Tryz.isAgg5
 z5:=Tryz.sizeOf5
 v5:=Tryz.zeroValue5
 t9:=Tryz.underlying9
 a9:=Tryz.isAgg9
 z9:=Tryz.sizeOf9
 v9:=Tryz.zeroValue9
 t20:=Tryz.underlying20
 a20:=Tryz.isAgg20
 z20:=Tryz.sizeOf20
 v20:=Tryz.zeroValue20
 t21:=Tryz.underlying21
 a21:=Tryz.isAgg21
 z21:=Tryz.sizeOf21
 v21:=Tryz.zeroValue21
 t37:=Tryz.underlying42
 a37:=Tryz.isAgg42
 z37:=Tryz.sizeOf42
 v37:=Tryz.zeroValue42
 t46:=Tryz.underlying190
 a46:=Tryz.isAgg190
 z46:=Tryz.sizeOf190
 v46:=Tryz.zeroValue190
 t51:=Tryz.underlying208
 a51:=Tryz.isAgg208
 z51:=Tryz.sizeOf208
 v51:=Tryz.zeroValue208
 t70:=Tryz.underlying166
 a70:=Tryz.isAgg166
 z70:=Tryz.sizeOf166
 v70:=Tryz.zeroValue166
 t72:=Tryz.underlying168
 a72:=Tryz.isAgg168
 z72:=Tryz.sizeOf168
 v72:=Tryz.zeroValue168
 t75:=Tryz.underlying152
 a75:=Tryz.isAgg152
 z75:=Tryz.sizeOf152
 v75:=Tryz.zeroValue152
 t76:=Tryz.underlying153
 a76:=Tryz.isAgg153
 z76:=Tryz.sizeOf153
 v76:=Tryz.zeroValue153
 t105:=Tryz.underlying170
 a105:=Tryz.isAgg170
 z105:=Tryz.sizeOf170
 v105:=Tryz.zeroValue170
 t119:=Tryz.underlying200
 a119:=Tryz.isAgg200
 z119:=Tryz.sizeOf200
 t127:=Tryz.underlying186
 a127:=Tryz.isAgg186
 z127:=Tryz.sizeOf186
 v127:=Tryz.zeroValue186
 t138:=Tryz.underlying202
 a138:=Tryz.isAgg202
 z138:=Tryz.sizeOf202
 v138:=Tryz.zeroValue202
 t139:=Tryz.underlying203
 a139:=Tryz.isAgg203
 z139:=Tryz.sizeOf203
 v139:=Tryz.zeroValue203
 t146:=Tryz.underlying209
 a146:=Tryz.isAgg209
 z146:=Tryz.sizeOf209
 v146:=Tryz.zeroValue209
 t164:=Tryz.underlying197
 a164:=Tryz.isAgg197
 z164:=Tryz.sizeOf197
 v164:=Tryz.zeroValue197
 g1:=by kernel_rfl
 g3:=by kernel_rfl
 g4:=by kernel_rfl }
theorem Tryz.KO:Builder.Extra Tryz.prog Tryz.Ls:={
 sizeBuilder:=by kernel_rfl
 liesBuilder:=by kernel_rfl
 t5:=Tryz.underlying5
 a5:=Tryz.isAgg5
 z5:=Tryz.sizeOf5
 v5:=Tryz.zeroValue5
 infoByte:=by kernel_rfl
 cellsByte:=by kernel_rfl
 sizeByte:=by kernel_rfl
 neB5:=by decide }
open Go.RowKit Go.Lib in
theorem Tryz.strings_Replace (s old new:ByteArray) (n:Int) (m:Int) (w:World) (hs:s.size < 4294967281) (hm:w.cell? ⟨7,0,none⟩=some (.int .i64 m)) (h1:1≤old.size) (hlen:s.size+Lib.countB s old*new.size≤140737488355328) :
   Calls Tryz.prog 143 #[.string s,.string old,.string new,.int .i64 n] w fun e w' =>
     e=.returned (.string ⟨(Lib.replace s.data.toList old.data.toList new.data.toList n).toArray⟩)∧Below w.heap.size w w':=Any.strings_Replace Tryz.cI Tryz.KO s old new n m w hs hm h1 hlen
end Go.Proofs
namespace Go.Proofs.YtkfplcngmiljaaaGreatDoor
open AI Go Go.RowKit LexS
def Ab (s:List UInt8):AV:=.sc (.string ⟨s.toArray⟩)
namespace HdU
def b9:List AV:=(List.range 128).map fun i=>.sc (.int .u8 (KU i:Nat))
def aU:List AV:=C0.map Ab
def int (n:Int):AV:=.sc (.int .i64 n)
def G (mx:Int):AB:=fun g =>
 match Nat.beq g 3 with
 | true=>some [Ab [111,114],Ab [],Ab [],Ab [],Ab [],Ab [],Ab [97,110,100],Ab [],Ab [],Ab [],Ab [],Ab [],Ab [],Ab [],Ab [],Ab [],Ab [],Ab [],Ab [61,61],Ab [33,61],Ab [60],Ab [60,61],Ab [62],Ab [62,61],Ab [43],Ab [45],Ab [],Ab [],Ab [],Ab [],Ab [42],Ab [47],Ab [97,116],Ab [],Ab [],Ab []]
 | false=>match Nat.beq g 1 with
   | true=>some [Ab [],Ab [101,97,114,110],Ab [100,101,100,117,99,116],Ab [102,108,111,111,114],Ab [105,110,102,111]]
   | false=>match Nat.beq g 6 with
     | true=>some [int 0,int 31,int 59,int 90,int 120,int 151,int 181,int 212,int 243,int 273,int 304,int 334,int 365]
     | false=>match Nat.beq g 2 with
       | true=>some b9
       | false=>match Nat.beq g 0 with
         | true=>some aU
         | false=>match Nat.beq g 7 with
           | true=>some [int mx]
           | false=>none
variable {mx:Int}
theorem Mv:∀ l:List (List UInt8),AL (l.map Ab)=true
 | []=>rfl
 | s::l=>by
   show (true&&AL (l.map Ab))=true
   rw [Mv l];rfl
theorem Ro:∀ l:List Nat,AL (l.map fun i=>(.sc (.int .u8 (KU i:Nat)):AV))=true
 | []=>rfl
 | s::l=>by
   show (true&&AL (l.map fun i=>(.sc (.int .u8 (KU i:Nat)):AV)))=true
   rw [Ro l];rfl
theorem Ac (g:Nat) (cs:List AV) (h:G mx g=some cs):AL cs=true:=by
 unfold G at h
 split at h
 · cases h;rfl
 · split at h
   · cases h;rfl
   · split at h
     · cases h;rfl
     · split at h
       · cases h;exact Ro _
       · split at h
         · cases h;exact Mv _
         · split at h
           · cases h;rfl
           · cases h
theorem tP {cx:Cx} {w:World} {s:AS} (h:St (G mx) cx w s):F7 w:=by
 refine ⟨fun i hi=>?_,fun j v hj=>?_⟩
 · have hc:=h.glob 2 b9 rfl
   have he:b9[i]?=some (.sc (.int .u8 (KU i:Nat))):=by simp [b9,hi]
   obtain ⟨v,hv,hr⟩:=hc.get he
   cases hr
   have:=hv.2.2
   rwa [Nat.zero_add] at this
 · have hc:=h.glob 0 aU rfl
   have hj':(C0.map fun y=>Value.string ⟨y.toArray⟩)[j]?=some v:=by simpa [Dh] using hj
   rw [List.getElem?_map] at hj'
   obtain ⟨y,hy,rfl⟩:=Option.map_eq_some_iff.1 hj'
   have he:aU[j]?=some (Ab y):=by simp [aU,hy]
   obtain ⟨u,hu,hr⟩:=hc.get he
   unfold Ab at hr
   cases hr
   have:=hu.2.2
   rwa [Nat.zero_add] at this
theorem Lf {w w':World} (h:Below w.heap.size w w'):KL w w' (fun _=>False):=⟨h.os,h.tape,h.output,h.size,fun k hk _=>h.block k hk⟩
def Lb (l:List Tok):List AV:=l.flatMap fun x=>[int x.1,Ab x.2.1,int x.2.2]
def vD (r:List Tok×Nat×Nat):AV:=.Bc [.sl .lost r.1.length (Lb r.1),int r.2.1,int r.2.2]
theorem V0 (l:List Tok):(Lb l).length=(Ep l).length:=by
 unfold Lb Ep
 induction l with
 | nil=>rfl
 | cons x l ih=>simp only [List.flatMap_cons,List.length_append,ih];rfl
theorem bD (cx:Cx) (w:World) (l:List Tok):A6 cx w (Lb l) (Ep l):=by
 unfold Lb Ep
 induction l with
 | nil=>exact .nil
 | cons x l ih =>
   simp only [List.flatMap_cons]
   exact A6.append (.cons (.sc rfl) (.cons (.sc rfl) (.cons (.sc rfl) .nil))) ih
theorem D8 (t:List UInt8) (v:AV) (h:Ob v (vD (QQ t))=true):Aq Tryz.prog (G mx) ⟨43,[Ab t],none,v⟩:=by
 have hv:=Qb h
 subst hv
 intro s cx w vs hs ha
 cases ha with
 | cons h1 tl =>
 cases tl
 unfold Ab at h1
 cases h1
 have hL:L (⟨t.toArray⟩:ByteArray)=t:=by simp [L]
 refine (ZB ⟨t.toArray⟩ w (tP hs)).mono ?_
 rw [hL]
 rintro e w' ⟨u,rfl,hown,hb⟩
 obtain ⟨x,st⟩:=hs.same (Lf hb)
 refine ⟨cx,x,st,_,rfl,?_⟩
 refine .Bc (vs:=[u,.int .i64 (QQ t).2.1,.int .i64 (QQ t).2.2]) (.cons ?_ (.cons (.sc rfl) (.cons (.sc rfl) .nil)))
 have hl:=V0 (QQ t).1
 have hc:=bD cx w' (QQ t).1
 obtain ⟨h1,⟨rfl,h2⟩ | ⟨g,cap,cur,rfl,hg,hw,hn,_,hsz,htk⟩⟩:=hown
 · have:(QQ t).1=[]:=List.eq_nil_of_length_eq_zero h2
   rw [this]
   exact .sl0 trivial
 · refine .sl1 hn (AA.GV hc (fun i v hi=>⟨(Array.getElem?_eq_some_iff.1 hw).1,fun hsh=>?_,?_⟩)) trivial
   · have:g < w.heap.size:=hs.Ib hsh
     omega
   · rw [Nat.zero_add,cell_of_row w' g i cur _ _ hw]
     rw [← htk,List.getElem?_take] at hi
     split at hi
     · rwa [Array.getElem?_toList] at hi
     · cases hi
theorem UQ (w:World) (e:TypeId) (s:ByteArray):KL w (Lib.bytesWorld w e s) (fun _=>False) :=
 Lf (Lib.below_freeze ((Below.drew (Below.refl _ w)).alloc (Nat.le_refl _) _) (p:=⟨w.heap.size,_,Option.none⟩) (Nat.le_refl _) 1)
theorem Gx (t:List UInt8) (n:Int) (hl:Nat.ble t.length 18=true) (h:Lib.atoi t=some n):Aq Tryz.prog (G mx) ⟨137,[Ab t],none,.Bc [int n,.sc .nilIface]⟩:=by
 intro s cx w vs hs ha
 cases ha with
 | cons h1 tl =>
 cases tl
 unfold Ab at h1
 cases h1
 refine (Tryz.strconv_Atoi ⟨t.toArray⟩ n (by have:=Nat.le_of_ble_eq_true hl;show t.toArray.size≤18;simpa using this) (by simpa using h) w).mono ?_
 rintro e w' ⟨rfl,tt,rfl⟩
 obtain ⟨x,st⟩:=hs.same (UQ w _ tt)
 exact ⟨cx,x,st,_,rfl,.Bc (vs:=[.int .i64 n,.nilIface]) (.cons (.sc rfl) (.cons (.sc rfl) .nil))⟩
theorem MI (t old new r:List UInt8) (n:Int) (h1:Nat.ble 1 old.length=true) (h2:Nat.ble (t.length+Lib.countB ⟨t.toArray⟩ ⟨old.toArray⟩*new.length) 4000=true) (h:Lib.replace t old new n=r):Aq Tryz.prog (G mx) ⟨143,[Ab t,Ab old,Ab new,int n],none,Ab r⟩:=by
 intro s cx w vs hs ha
 cases ha with
 | cons a1 tl =>
 cases tl with
 | cons a2 tl =>
 cases tl with
 | cons a3 tl =>
 cases tl with
 | cons a4 tl =>
 cases tl
 unfold Ab at a1 a2 a3
 unfold int at a4
 cases a1;cases a2;cases a3;cases a4
 have hc:=h.symm
 have hm:w.cell? ⟨7,0,none⟩=some (.int .i64 mx):=by
   have hg:=hs.glob 7 [int mx] rfl
   obtain ⟨v,hv,hr⟩:=hg.get (i:=0) rfl
   unfold int at hr
   cases hr
   exact hv.2.2
 have k2:=Nat.le_of_ble_eq_true h2
 have k1:=Nat.le_of_ble_eq_true h1
 refine (Tryz.strings_Replace ⟨t.toArray⟩ ⟨old.toArray⟩ ⟨new.toArray⟩ n mx w ?_ hm ?_ ?_).mono ?_
 · show t.toArray.size < _;simp;omega
 · show 1≤old.toArray.size;simpa using k1
 · have e1:(⟨t.toArray⟩:ByteArray).size=t.length:=by show t.toArray.size=_;simp
   have e2:(⟨new.toArray⟩:ByteArray).size=new.length:=by show new.toArray.size=_;simp
   rw [e1,e2];omega
 · rintro e w' ⟨rfl,hb⟩
   obtain ⟨x,st⟩:=hs.same (Lf hb)
   refine ⟨cx,x,st,_,rfl,?_⟩
   subst hc
   exact .sc rfl
def oK (g:Nat) (first caps:List AV):Option (FuncId×List AV×(CR→Option CR)):=match Nat.beq g 45 with
 | true=>some (45,first++[]++caps,aV)
 | false=>(match Nat.beq g 74 with
   | true=>some (74,first++[]++caps,aV)
   | false=>none)
def qN:List AV→Option (FuncId×List AV×(CR→Option CR))
 | [.fn (.func g) first caps]=>oK g first caps
 | _=>none
def H:Hl:=fun f args=>match Nat.beq f 44 with
 | true=>qN args
 | false=>none
def X (l:List By):NE:=fun f args s=>find f args s l
theorem qZ {l:List By} (hl:∀ e∈l,Aq Tryz.prog (G mx) e):T9 Tryz.prog (G mx) (XP (X l)) H:=by
 refine ⟨by kernel_rfl,fun f args s r s' h=>ZI hl h,fun f args g gargs k h s r s' r' hs hk=>?_⟩
 unfold H at h
 split at h
 · rename_i hf
   rw [beq_true hf]
   unfold qN at h
   split at h
   · rename_i g0 first caps
     unfold oK at h
     split at h
     · rename_i hg0;rw [beq_true hg0];cases h;exact Ou (by kernel_rfl) hs hk
     · split at h
       · rename_i hg0;rw [beq_true hg0];cases h;exact Ou (by kernel_rfl) hs hk
       · cases h
   · cases h
 · cases h
theorem none:∀ e∈([]:List By),Aq Tryz.prog (G mx) e:=fun e he=>by cases he
theorem entry {e:By} {l:List By} {m:Nat} (hl:∀ e∈l,Aq Tryz.prog (G mx) e) (hp:NP e=true) (h:V6 e (s6 Tryz.prog (G mx) (X l) H m (Ki e))=true):Aq Tryz.prog (G mx) e:=jP (qZ hl) Ac hp h
end HdU
end Go.Proofs.YtkfplcngmiljaaaGreatDoor
