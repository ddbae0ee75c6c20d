/- Part of a proof: see the last text. -/
import Derived.Test.YtpbkhogolfegfaaGreatDoorPnm
import Derived.Shelf.Strings.Builder1
import Derived.Shelf.Strings.Builder2
import Derived.Shelf.Strconv.Atoi
import Derived.Shelf.Strconv.Itoa0
import Derived.Shelf.Strconv.Itoa1
import Derived.Shelf.LaysM
import Derived.Shelf.Strconv.Itoa2
import Derived.Shelf.Strconv.Itoa3
import Derived.Shelf.Strconv.AtoiErrFast
import Derived.Shelf.Strconv.ParseIntEmpty
import Derived.Shelf.Strconv.AtoiFail
import Derived.Shelf.Strconv.Clone
import Derived.Shelf.Strconv.SyntaxError
import Derived.Shelf.LaysC
import Derived.Shelf.Strconv.ToError
import Derived.Shelf.Strconv.Lower
import Derived.Shelf.Strconv.ParseUint10
import Derived.Shelf.Strconv.ParseUint10Empty
import Derived.Shelf.Strconv.ParseUint10Any
import Derived.Shelf.Strconv.ParseInt10
import Derived.Shelf.Strconv.AtoiLong
import Derived.Shelf.Strconv.AtoiInnerAll
import Derived.Shelf.Strconv.RangeError
import Derived.Shelf.Strconv.ToErrorRange
import Derived.Shelf.Strconv.AtoiAll
import Derived.Shelf.Strings.Search1
import Derived.Shelf.Strings.Search2
import Derived.Shelf.Strings.Search3
import Derived.Shelf.Strings.Count
import Derived.Shelf.Strings.Shaped
import Derived.Shelf.Strings.Split
import Derived.Shelf.Strings.Replace
import Derived.Shelf.Unicode.DecodeSlow
import Derived.Test.YtpbkhogolfegfaaGreatDoorProg
import Derived.KernelRfl
set_option linter.unusedVariables false
set_option linter.unusedSimpArgs false
set_option linter.defProp false
noncomputable section
open Go.IntKind renaming i64->bmJ
open Go.Lib renaming pow10Tab->bnI
open Go.Shelf renaming Ren->brG
open Nat renaming beq->bjO
open Option renaming bind_some->NF
open UInt8 renaming ofNat->bnU
namespace Go.Proofs
open Go.Shelf
def Tryz.wL:brG:=⟨λ| 172=>173 | 244=>193 | 245=>194 | 247=>207 | 279=>208 | 280=>209 | 281=>210 | 282=>211 | 287=>224 | 316=>225 | 171=>64 | 205=>226 | 321=>235 | 322=>236 | 243=>114 | 246=>149 | 283=>166 | 284=>167 | 285=>168 | 286=>169 | 129=>189 | 317=>188 | 318=>190 | 319=>191 | 320=>192 | 337=>205 | 338=>206 | n=>n,λ| 9=>9 | 3=>3 | 75=>153 | 76=>154 | 4=>4 | 5=>5 | 167=>182 | 37=>52 | 0=>0 | 85=>183 | 2=>2 | 168=>185 | 53=>146 | 175=>197 | 46=>170 | 210=>201 | 127=>180 | 145=>210 | 143=>208 | 21=>21 | 171=>145 | 173=>149 | 212=>167 | 51=>168 | 20=>20 | 213=>169 | 232=>195 | 233=>196 | 80=>108 | n=>n,λ| 15=>10 | 16=>11 | 17=>4 | 18=>8 | 19=>9 | n=>n⟩
def Tryz.aBL:Go.Proofs.Lays.n172 Tryz.prog Tryz.wL:={
 mixed:=by kernel_rfl
 f129:=Tryz.func189.trans (congrArg some (by kernel_rfl))
 f171:=Tryz.func64.trans (congrArg some (by kernel_rfl))
 f172:=Tryz.func173.trans (congrArg some (by kernel_rfl))
 f205:=Tryz.func226.trans (congrArg some (by kernel_rfl))
 f243:=Tryz.func114.trans (congrArg some (by kernel_rfl))
 f244:=Tryz.func193.trans (congrArg some (by kernel_rfl))
 f245:=Tryz.func194.trans (congrArg some (by kernel_rfl))
 f246:=Tryz.func149.trans (congrArg some (by kernel_rfl))
 f247:=Tryz.func207.trans (congrArg some (by kernel_rfl))
 f279:=Tryz.func208.trans (congrArg some (by kernel_rfl))
 f280:=Tryz.func209.trans (congrArg some (by kernel_rfl))
 f281:=Tryz.func210.trans (congrArg some (by kernel_rfl))
 f282:=Tryz.func211.trans (congrArg some (by kernel_rfl))
 f283:=Tryz.func166.trans (congrArg some (by kernel_rfl))
 f284:=Tryz.func167.trans (congrArg some (by kernel_rfl))
 f285:=Tryz.func168.trans (congrArg some (by kernel_rfl))
 f286:=Tryz.func169.trans (congrArg some (by kernel_rfl))
 f287:=Tryz.func224.trans (congrArg some (by kernel_rfl))
 f316:=Tryz.func225.trans (congrArg some (by kernel_rfl))
 f317:=Tryz.func188.trans (congrArg some (by kernel_rfl))
 f318:=Tryz.func190.trans (congrArg some (by kernel_rfl))
 f319:=Tryz.func191.trans (congrArg some (by kernel_rfl))
 f320:=Tryz.func192.trans (congrArg some (by kernel_rfl))
 f321:=Tryz.func235.trans (congrArg some (by kernel_rfl))
 f322:=Tryz.func236.trans (congrArg some (by kernel_rfl))
 f337:=Tryz.func205.trans (congrArg some (by kernel_rfl))
 f338:=Tryz.func206.trans (congrArg some (by kernel_rfl))
 t0:=Tryz.underlying0
 a0:=Tryz.isAgg0
 z0:=Tryz.sizeOf0
 v0:=Tryz.zeroValue0
 t2:=Tryz.underlying2
 a2:=Tryz.isAgg2
 z2:=Tryz.sizeOf2
 v2:=Tryz.zeroValue2
 t3:=Tryz.underlying3
 a3:=Tryz.isAgg3
 z3:=Tryz.sizeOf3
 v3:=Tryz.zeroValue3
 t4:=Tryz.underlying4
 a4:=Tryz.isAgg4
 z4:=Tryz.sizeOf4
 v4:=Tryz.zeroValue4
 t5:=Tryz.underlying5
 a5:=Tryz.isAgg5
 z5:=Tryz.sizeOf5
 v5:=Tryz.zeroValue5
 t9:=Tryz.underlying9
 a9:=Tryz.isAgg9
 z9:=Tryz.sizeOf9
 v9:=Tryz.zeroValue9
 t20:=Tryz.underlying20
 a20:=Tryz.isAgg20
 z20:=Tryz.sizeOf20
 v20:=Tryz.zeroValue20
 t21:=Tryz.underlying21
 a21:=Tryz.isAgg21
 z21:=Tryz.sizeOf21
 v21:=Tryz.zeroValue21
 t37:=Tryz.underlying52
 a37:=Tryz.isAgg52
 z37:=Tryz.sizeOf52
 v37:=Tryz.zeroValue52
 t46:=Tryz.underlying170
 a46:=Tryz.isAgg170
 z46:=Tryz.sizeOf170
 v46:=Tryz.zeroValue170
 t51:=Tryz.underlying168
 a51:=Tryz.isAgg168
 z51:=Tryz.sizeOf168
 v51:=Tryz.zeroValue168
 t53:=Tryz.underlying146
 a53:=Tryz.isAgg146
 z53:=Tryz.sizeOf146
 v53:=Tryz.zeroValue146
 t75:=Tryz.underlying153
 a75:=Tryz.isAgg153
 z75:=Tryz.sizeOf153
 v75:=Tryz.zeroValue153
 t76:=Tryz.underlying154
 a76:=Tryz.isAgg154
 z76:=Tryz.sizeOf154
 v76:=Tryz.zeroValue154
 t85:=Tryz.underlying183
 a85:=Tryz.isAgg183
 z85:=Tryz.sizeOf183
 v85:=Tryz.zeroValue183
 t127:=Tryz.underlying180
 a127:=Tryz.isAgg180
 z127:=Tryz.sizeOf180
 v127:=Tryz.zeroValue180
 t143:=Tryz.underlying208
 a143:=Tryz.isAgg208
 z143:=Tryz.sizeOf208
 v143:=Tryz.zeroValue208
 t145:=Tryz.underlying210
 a145:=Tryz.isAgg210
 z145:=Tryz.sizeOf210
 v145:=Tryz.zeroValue210
 t167:=Tryz.underlying182
 a167:=Tryz.isAgg182
 z167:=Tryz.sizeOf182
 v167:=Tryz.zeroValue182
 t168:=Tryz.underlying185
 a168:=Tryz.isAgg185
 z168:=Tryz.sizeOf185
 v168:=Tryz.zeroValue185
 t171:=Tryz.underlying145
 a171:=Tryz.isAgg145
 z171:=Tryz.sizeOf145
 v171:=Tryz.zeroValue145
 t173:=Tryz.underlying149
 a173:=Tryz.isAgg149
 z173:=Tryz.sizeOf149
 v173:=Tryz.zeroValue149
 t175:=Tryz.underlying197
 a175:=Tryz.isAgg197
 z175:=Tryz.sizeOf197
 v175:=Tryz.zeroValue197
 t210:=Tryz.underlying201
 a210:=Tryz.isAgg201
 z210:=Tryz.sizeOf201
 v210:=Tryz.zeroValue201
 t212:=Tryz.underlying167
 a212:=Tryz.isAgg167
 z212:=Tryz.sizeOf167
 v212:=Tryz.zeroValue167
 t213:=Tryz.underlying169
 a213:=Tryz.isAgg169
 z213:=Tryz.sizeOf169
 t232:=Tryz.underlying195
 a232:=Tryz.isAgg195
 z232:=Tryz.sizeOf195
 v232:=Tryz.zeroValue195
 t233:=Tryz.underlying196
 a233:=Tryz.isAgg196
 z233:=Tryz.sizeOf196
 v233:=Tryz.zeroValue196
 g15:=by kernel_rfl
 g16:=by kernel_rfl
 g17:=by kernel_rfl
 g18:=by kernel_rfl
 g19:=by kernel_rfl }
open Go.RowKit in
def Tryz.strconv_Atoi(s:ByteArray)(n:Int)(hl:s.size<=18)(h:Lib.atoi s.data.toList=some n)(w:World) :
   Calls Tryz.prog 173 #[.string s] w λe w'=>e=.returned (.tuple #[.int .i64 n,.nilIface])/\∃t,w'=Lib.bytesWorld w 5 t:=Any.strconv_Atoi Tryz.aBL s n hl h w
def Tryz.rA:brG:=⟨λ| 171=>64 | 243=>114 | 246=>149 | 283=>166 | 284=>167 | 285=>168 | 286=>169 | 129=>189 | 317=>188 | 318=>190 | 319=>191 | 320=>192 | 337=>205 | 338=>206 | n=>n,λ| 3=>3 | 9=>9 | 2=>2 | 4=>4 | 171=>145 | 0=>0 | 53=>146 | 37=>52 | 5=>5 | 173=>149 | 212=>167 | 51=>168 | 20=>20 | 213=>169 | 46=>170 | 232=>195 | 233=>196 | n=>n,λ| 17=>4 | 18=>8 | 19=>9 | n=>n⟩
def Tryz.asQ:Go.Proofs.LaysM.n171 Tryz.prog Tryz.rA:={
 mixed:=by kernel_rfl
 f129:=Tryz.func189.trans (congrArg some (by kernel_rfl))
 f171:=Tryz.func64.trans (congrArg some (by kernel_rfl))
 f243:=Tryz.func114.trans (congrArg some (by kernel_rfl))
 f246:=Tryz.func149.trans (congrArg some (by kernel_rfl))
 f283:=Tryz.func166.trans (congrArg some (by kernel_rfl))
 f284:=Tryz.func167.trans (congrArg some (by kernel_rfl))
 f285:=Tryz.func168.trans (congrArg some (by kernel_rfl))
 f286:=Tryz.func169.trans (congrArg some (by kernel_rfl))
 f317:=Tryz.func188.trans (congrArg some (by kernel_rfl))
 f318:=Tryz.func190.trans (congrArg some (by kernel_rfl))
 f319:=Tryz.func191.trans (congrArg some (by kernel_rfl))
 f320:=Tryz.func192.trans (congrArg some (by kernel_rfl))
 f337:=Tryz.func205.trans (congrArg some (by kernel_rfl))
 f338:=Tryz.func206.trans (congrArg some (by kernel_rfl))
 t0:=Tryz.underlying0
 a0:=Tryz.isAgg0
 z0:=Tryz.sizeOf0
 v0:=Tryz.zeroValue0
 t2:=Tryz.underlying2
 a2:=Tryz.isAgg2
 z2:=Tryz.sizeOf2
 v2:=Tryz.zeroValue2
 t3:=Tryz.underlying3
 a3:=Tryz.isAgg3
 z3:=Tryz.sizeOf3
 v3:=Tryz.zeroValue3
 t4:=Tryz.underlying4
 a4:=Tryz.isAgg4
 z4:=Tryz.sizeOf4
 v4:=Tryz.zeroValue4
 t5:=Tryz.underlying5
 a5:=Tryz.isAgg5
 z5:=Tryz.sizeOf5
 v5:=Tryz.zeroValue5
 t9:=Tryz.underlying9
 a9:=Tryz.isAgg9
 z9:=Tryz.sizeOf9
 v9:=Tryz.zeroValue9
 t20:=Tryz.underlying20
 a20:=Tryz.isAgg20
 z20:=Tryz.sizeOf20
 v20:=Tryz.zeroValue20
 t37:=Tryz.underlying52
 a37:=Tryz.isAgg52
 z37:=Tryz.sizeOf52
 v37:=Tryz.zeroValue52
 t46:=Tryz.underlying170
 a46:=Tryz.isAgg170
 z46:=Tryz.sizeOf170
 v46:=Tryz.zeroValue170
 t51:=Tryz.underlying168
 a51:=Tryz.isAgg168
 z51:=Tryz.sizeOf168
 v51:=Tryz.zeroValue168
 t53:=Tryz.underlying146
 a53:=Tryz.isAgg146
 z53:=Tryz.sizeOf146
 v53:=Tryz.zeroValue146
 t171:=Tryz.underlying145
 a171:=Tryz.isAgg145
 z171:=Tryz.sizeOf145
 v171:=Tryz.zeroValue145
 t173:=Tryz.underlying149
 a173:=Tryz.isAgg149
 z173:=Tryz.sizeOf149
 v173:=Tryz.zeroValue149
 t212:=Tryz.underlying167
 a212:=Tryz.isAgg167
 z212:=Tryz.sizeOf167
 v212:=Tryz.zeroValue167
 t213:=Tryz.underlying169
 a213:=Tryz.isAgg169
 z213:=Tryz.sizeOf169
 t232:=Tryz.underlying195
 a232:=Tryz.isAgg195
 z232:=Tryz.sizeOf195
 v232:=Tryz.zeroValue195
 t233:=Tryz.underlying196
 a233:=Tryz.isAgg196
 z233:=Tryz.sizeOf196
 v233:=Tryz.zeroValue196
 g17:=by kernel_rfl
 g18:=by kernel_rfl
 g19:=by kernel_rfl
 i0:=by kernel_rfl
 i2:=by kernel_rfl
 i3:=by kernel_rfl
 i4:=by kernel_rfl
 i5:=by kernel_rfl
 i9:=by kernel_rfl
 i20:=by kernel_rfl
 i37:=by kernel_rfl
 i46:=by kernel_rfl
 i51:=by kernel_rfl
 i53:=by kernel_rfl
 i171:=by kernel_rfl
 i173:=by kernel_rfl
 i212:=by kernel_rfl
 i232:=by kernel_rfl
 i233:=by kernel_rfl
 m17:=by kernel_rfl
 m18:=by kernel_rfl
 m19:=by kernel_rfl }
open Go.RowKit Go.Sort Go.Lib in
def Tryz.strconv_Itoa(n:Int)(h0:-9223372036854775808<=n)(h1:n<=9223372036854775807)(w:World)(beM:Lib.TabIs Tryz.prog w "internal/strconv.uint64pow10" .u64 bnI) :
   Calls Tryz.prog 64 #[.int .i64 n] w λe w'=>e=.returned (.string ⟨(Lib.itoa n).toArray⟩)/\∃k os,w'=grow (w.drewN k) os:=Any.strconv_Itoa Tryz.asQ n h0 h1 w beM
def Tryz.ZF:brG:=⟨λ| 154=>163 | 138=>180 | 165=>181 | 143=>182 | 166=>183 | 197=>184 | 169=>185 | 195=>198 | 218=>199 | 240=>200 | 241=>201 | 219=>202 | 260=>203 | 276=>217 | 277=>218 | 217=>219 | 225=>220 | 224=>221 | 267=>222 | 266=>230 | 314=>231 | n=>n,λ| 9=>9 | 3=>3 | 4=>4 | 72=>162 | 0=>0 | 76=>154 | 105=>164 | 21=>21 | 5=>5 | 70=>160 | 20=>20 | 37=>52 | 75=>153 | 127=>180 | 164=>188 | 46=>170 | 119=>191 | 139=>194 | 138=>193 | 146=>204 | 51=>168 | 80=>108 | n=>n,λ| 1=>5 | 3=>6 | 4=>7 | n=>n⟩
def Tryz.aBK:Go.Proofs.Lays.n154 Tryz.prog Tryz.ZF:={
 mixed:=by kernel_rfl
 f138:=Tryz.func180.trans (congrArg some (by kernel_rfl))
 f143:=Tryz.func182.trans (congrArg some (by kernel_rfl))
 f154:=Tryz.func163.trans (congrArg some (by kernel_rfl))
 f165:=Tryz.func181.trans (congrArg some (by kernel_rfl))
 f166:=Tryz.func183.trans (congrArg some (by kernel_rfl))
 f169:=Tryz.func185.trans (congrArg some (by kernel_rfl))
 f195:=Tryz.func198.trans (congrArg some (by kernel_rfl))
 f197:=Tryz.func184.trans (congrArg some (by kernel_rfl))
 f217:=Tryz.func219.trans (congrArg some (by kernel_rfl))
 f218:=Tryz.func199.trans (congrArg some (by kernel_rfl))
 f219:=Tryz.func202.trans (congrArg some (by kernel_rfl))
 f224:=Tryz.func221.trans (congrArg some (by kernel_rfl))
 f225:=Tryz.func220.trans (congrArg some (by kernel_rfl))
 f240:=Tryz.func200.trans (congrArg some (by kernel_rfl))
 f241:=Tryz.func201.trans (congrArg some (by kernel_rfl))
 f260:=Tryz.func203.trans (congrArg some (by kernel_rfl))
 f266:=Tryz.func230.trans (congrArg some (by kernel_rfl))
 f267:=Tryz.func222.trans (congrArg some (by kernel_rfl))
 f276:=Tryz.func217.trans (congrArg some (by kernel_rfl))
 f277:=Tryz.func218.trans (congrArg some (by kernel_rfl))
 f314:=Tryz.func231.trans (congrArg some (by kernel_rfl))
 t0:=Tryz.underlying0
 a0:=Tryz.isAgg0
 z0:=Tryz.sizeOf0
 v0:=Tryz.zeroValue0
 t3:=Tryz.underlying3
 a3:=Tryz.isAgg3
 z3:=Tryz.sizeOf3
 v3:=Tryz.zeroValue3
 t4:=Tryz.underlying4
 a4:=Tryz.isAgg4
 z4:=Tryz.sizeOf4
 v4:=Tryz.zeroValue4
 t5:=Tryz.underlying5
 a5:=Tryz.isAgg5
 z5:=Tryz.sizeOf5
 v5:=Tryz.zeroValue5
 t9:=Tryz.underlying9
 a9:=Tryz.isAgg9
 z9:=Tryz.sizeOf9
 v9:=Tryz.zeroValue9
 t20:=Tryz.underlying20
 a20:=Tryz.isAgg20
 z20:=Tryz.sizeOf20
 v20:=Tryz.zeroValue20
 t21:=Tryz.underlying21
 a21:=Tryz.isAgg21
 z21:=Tryz.sizeOf21
 v21:=Tryz.zeroValue21
 t37:=Tryz.underlying52
 a37:=Tryz.isAgg52
 z37:=Tryz.sizeOf52
 v37:=Tryz.zeroValue52
 t46:=Tryz.underlying170
 a46:=Tryz.isAgg170
 z46:=Tryz.sizeOf170
 v46:=Tryz.zeroValue170
 t51:=Tryz.underlying168
 a51:=Tryz.isAgg168
 z51:=Tryz.sizeOf168
 v51:=Tryz.zeroValue168
 t70:=Tryz.underlying160
 a70:=Tryz.isAgg160
 z70:=Tryz.sizeOf160
 v70:=Tryz.zeroValue160
 t72:=Tryz.underlying162
 a72:=Tryz.isAgg162
 z72:=Tryz.sizeOf162
 v72:=Tryz.zeroValue162
 t75:=Tryz.underlying153
 a75:=Tryz.isAgg153
 z75:=Tryz.sizeOf153
 v75:=Tryz.zeroValue153
 t76:=Tryz.underlying154
 a76:=Tryz.isAgg154
 z76:=Tryz.sizeOf154
 v76:=Tryz.zeroValue154
 t105:=Tryz.underlying164
 a105:=Tryz.isAgg164
 z105:=Tryz.sizeOf164
 v105:=Tryz.zeroValue164
 t119:=Tryz.underlying191
 a119:=Tryz.isAgg191
 z119:=Tryz.sizeOf191
 t127:=Tryz.underlying180
 a127:=Tryz.isAgg180
 z127:=Tryz.sizeOf180
 v127:=Tryz.zeroValue180
 t138:=Tryz.underlying193
 a138:=Tryz.isAgg193
 z138:=Tryz.sizeOf193
 v138:=Tryz.zeroValue193
 t139:=Tryz.underlying194
 a139:=Tryz.isAgg194
 z139:=Tryz.sizeOf194
 v139:=Tryz.zeroValue194
 t146:=Tryz.underlying204
 a146:=Tryz.isAgg204
 z146:=Tryz.sizeOf204
 v146:=Tryz.zeroValue204
 t164:=Tryz.underlying188
 a164:=Tryz.isAgg188
 z164:=Tryz.sizeOf188
 v164:=Tryz.zeroValue188
 g1:=by kernel_rfl
 g3:=by kernel_rfl
 g4:=by kernel_rfl }
def Tryz.W1:Builder.Extra Tryz.prog Tryz.ZF:={
 sizeBuilder:=by kernel_rfl
 liesBuilder:=by kernel_rfl
 t5:=Tryz.underlying5
 a5:=Tryz.isAgg5
 z5:=Tryz.sizeOf5
 v5:=Tryz.zeroValue5
 infoByte:=by kernel_rfl
 cellsByte:=by kernel_rfl
 sizeByte:=by kernel_rfl
 neB5:=by decide }
open Go.RowKit Go.Lib in
def Tryz.strings_Replace(s old new:ByteArray)(n:Int)(m:Int)(w:World)(hs:s.size < 4294967281)(hm:w.cell? ⟨5,0,none⟩=some (.int .i64 m))(h1:1<=old.size)(hlen:s.size+Lib.countB s old*new.size<=140737488355328) :
   Calls Tryz.prog 163 #[.string s,.string old,.string new,.int .i64 n] w λe w' =>
     e=.returned (.string ⟨(Lib.replace s.data.toList old.data.toList new.data.toList n).toArray⟩)/\Below w.heap.size w w':=Any.strings_Replace Tryz.aBK Tryz.W1 s old new n m w hs hm h1 hlen
end Go.Proofs
namespace Go.Proofs.YtpbkhogolfegfaaGreatDoor
open AI Go LexS
def Gz(s:List UInt8):AV:=.sc (.string ⟨s.toArray⟩)
namespace Hd
def azK:List AV:=(List.range 128).map λi=>.sc (.int .u8 (KX i:Nat))
def aEX:List AV:=Fw.map Gz
def int(n:Int):AV:=.sc (.int .i64 n)
def adS(n:Int):AV:=.sc (.int .u64 n)
def G(mx:Int):AK:=λg =>
 match bjO g 2 with
 | true=>some [Gz [111,114],Gz [],Gz [],Gz [],Gz [],Gz [],Gz [97,110,100],Gz [],Gz [],Gz [],Gz [],Gz [],Gz [],Gz [],Gz [],Gz [],Gz [],Gz [],Gz [61,61],Gz [33,61],Gz [60],Gz [60,61],Gz [62],Gz [62,61],Gz [43],Gz [45],Gz [],Gz [],Gz [],Gz [],Gz [42],Gz [47],Gz [97,116],Gz [],Gz [],Gz []]
 | false=>match bjO g 1 with
   | true=>some [Gz [],Gz [101,97,114,110],Gz [100,101,100,117,99,116],Gz [102,108,111,111,114],Gz [105,110,102,111]]
   | false=>match bjO g 12 with
     | true=>some [int 0,int 31,int 59,int 90,int 120,int 151,int 181,int 212,int 243,int 273,int 304,int 334,int 365]
     | false=>match bjO g 3 with
       | true=>some azK
       | false=>match bjO g 0 with
         | true=>some aEX
         | false=>match bjO g 5 with
           | true=>some [int mx]
           | false=>match bjO g 4 with
             | true=>some (bnI.map adS)
             | false=>none
variable {mx:Int}
def mixed:Tryz.prog.follows .mixedOrders=true:=by kernel_rfl
def gH:∀l:List (List UInt8),Bz (l.map Gz)=true
 | []=>rfl
 | s::l=>by
   show(true&&Bz (l.map Gz))=true;rw[gH l];rfl
def xG:∀l:List Nat,Bz (l.map λi=>(.sc (.int .u8 (KX i:Nat)):AV))=true
 | []=>rfl
 | s::l=>by
   show(true&&Bz (l.map λi=>(.sc (.int .u8 (KX i:Nat)):AV)))=true;rw[xG l];rfl
def nN:∀l:List Int,Bz (l.map adS)=true
 | []=>rfl
 | s::l=>by
   show(true&&Bz (l.map adS))=true;rw[nN l];rfl
def Wm(g:Nat)(cs:List AV)(h:G mx g=some cs):Bz cs=true:=by
 unfold G at h;split at h;cases h;rfl;split at h;cases h;rfl;split at h;cases h;rfl;split at h;cases h;exact xG _;split at h;cases h;exact gH _;split at h;cases h;rfl;split at h;cases h;exact nN _;cases h
end Hd
end Go.Proofs.YtpbkhogolfegfaaGreatDoor
namespace Go.Proofs.YtpbkhogolfegfaaGreatDoor
open AI Go
namespace Mo
abbrev P:Program:=Tryz.prog
abbrev G(mx:Int):AK:=Hd.G mx
variable {G0:AK}
def U6{i n:Nat}(h:i < n):Dd ((i:Nat):Int) ((n:Nat):Int)=true:=by rw[Sh];simp;exact h
def ltF{i n:Nat}(h:n<=i):Dd ((i:Nat):Int) ((n:Nat):Int)=false:=by rw[Sh];simp;omega
def Jf{a b:Int}(h:Bi a b=true):a=b:=by rw[O2] at h;simpa using h
def aeX{a b:Int}(h:Bi a b=false):a≠b:=by rw[O2] at h;simpa using h
def aYL{a b:Int}(h:LS a b=false):b < a:=by rw[fP] at h;have:=of_decide_eq_false h;omega
def nD{a b:Int}(h:Dd a b=true):a < b:=by rw[Sh] at h;exact of_decide_eq_true h
def Qv{a b:Int}(h:Dd a b=false):b<=a:=by rw[Sh] at h;have:=of_decide_eq_false h;omega
def Ie{a b:Int}(h:a=b):Bi a b=true:=by rw[O2];simpa using h
def Kr{a b:Int}(h:a≠b):Bi a b=false:=by rw[O2];simpa using h
def fQ{a b:Int}(h:a<=b):LS a b=true:=by rw[fP];exact decide_eq_true h
def XD{a b:Int}(h:b < a):LS a b=false:=by rw[fP];exact decide_eq_false (by omega)
def G4{a b:Int}(h:a < b):Dd a b=true:=by rw[Sh];exact decide_eq_true h
def DQ{a b:Int}(h:b<=a):Dd a b=false:=by rw[Sh];exact decide_eq_false (by omega)
def apK{a b:ByteArray}(h:BD a.data.toList b.data.toList=true):a=b:=by
 rw[Yv] at h;exact ByteArray.ext (Array.ext' (eq_of_beq h))
def fbp{n m:Nat}(a:List AV)(h:Bz a=true):FB n m:=⟨.cells a,.cells a,.cells (.plain h)⟩
def aZD{n:Nat}{l:List AV}(h:Bz l=true):plain (.sl .lost n l)=true:=by simp only[plain,h];rfl
def inC(x:Int):List AV:=[.sc (.int .i64 x)]
def u8C(x:Int):List AV:=[.sc (.int .u8 x)]
def aFP(x:Int):List AV:=[.sc (.int .u16 x)]
def stC(x:ByteArray):List AV:=[.sc (.string x)]
def boC(x:Bool):List AV:=[.sc (.bool x)]
def fN:Mi inC (rows inC) 1:=⟨λ_=>rfl,λ_=>rfl,λ_=>rfl⟩
def aJF:Mi u8C (rows u8C) 1:=⟨λ_=>rfl,λ_=>rfl,λ_=>rfl⟩
def asP:Mi aFP (rows aFP) 1:=⟨λ_=>rfl,λ_=>rfl,λ_=>rfl⟩
def T4:Mi stC (rows stC) 1:=⟨λ_=>rfl,λ_=>rfl,λ_=>rfl⟩
def qZ:Mi boC (rows boC) 1:=⟨λ_=>rfl,λ_=>rfl,λ_=>rfl⟩
def agB(x:(List Int)):List AV:=[.sl .lost x.length (rows inC x)]
def afU:Mi agB (rows agB) 1:=⟨λ_=>rfl,λ_=>rfl,λx=>Hj (fN.tT x) rfl⟩
def agC(x:(List ByteArray)):List AV:=[.sl .lost x.length (rows stC x)]
def afV:Mi agC (rows agC) 1:=⟨λ_=>rfl,λ_=>rfl,λx=>Hj (T4.tT x) rfl⟩
def agA(x:(List Bool)):List AV:=[.sl .lost x.length (rows boC x)]
def wK:Mi agA (rows agA) 1:=⟨λ_=>rfl,λ_=>rfl,λx=>Hj (qZ.tT x) rfl⟩
structure Pc where
 fr:Int
 Bc:Int
 BJ:Int
def Ov(x:Pc):List AV:=[.sc (.int .i64 x.fr),.sc (.int .i64 x.Bc),.sc (.int .i64 x.BJ)]
def N5:Mi Ov (rows Ov) 3:=⟨λ_=>rfl,λ_=>rfl,λx=>(Hj rfl (Hj rfl (Hj rfl rfl)))⟩
structure Pt where
 fr:Int
 Bc:Int
 num:Int
 den:Int
def nO(x:Pt):List AV:=[.sc (.int .i64 x.fr),.sc (.int .i64 x.Bc),.sc (.int .i64 x.num),.sc (.int .i64 x.den)]
def nB:Mi nO (rows nO) 4:=⟨λ_=>rfl,λ_=>rfl,λx=>(Hj rfl (Hj rfl (Hj rfl (Hj rfl rfl))))⟩
structure Fn where
 den:Int
 ps:(List Pc)
def vK(x:Fn):List AV:=[.sc (.int .i64 x.den),.sl .lost x.ps.length (rows Ov x.ps)]
def aJC:Mi vK (rows vK) 2:=⟨λ_=>rfl,λ_=>rfl,λx=>(Hj rfl (Hj (N5.tT x.ps) rfl))⟩
structure Nd where
 kind:Int
 name:ByteArray
 unit:ByteArray
 n:Int
 fr:Int
 to:Int
 known:Int
 BK:Fn
 kids:(List Nd)
 Bc:Int
mutual
def ndK:Nd->List AV
 | ⟨kind,name,unit,n,fr,to,known,BK,kids,Bc⟩=>[.sc (.int .i64 kind),.sc (.string name),.sc (.string unit),.sc (.int .i64 n),.sc (.int .i64 fr),.sc (.int .i64 to),.sc (.int .i64 known),.sc (.int .i64 BK.den),.sl .lost BK.ps.length (rows Ov BK.ps),.sl .lost kids.length (BC kids),.sc (.int .i64 Bc)]
def BC:List Nd->List AV
 | []=>[]
 | k::ks=>ndK k++BC ks
end
def CW(x:Nd):List AV:=[.sc (.int .i64 x.kind),.sc (.string x.name),.sc (.string x.unit),.sc (.int .i64 x.n),.sc (.int .i64 x.fr),.sc (.int .i64 x.to),.sc (.int .i64 x.known),.sc (.int .i64 x.BK.den),.sl .lost x.BK.ps.length (rows Ov x.BK.ps),.sl .lost x.kids.length (BC x.kids),.sc (.int .i64 x.Bc)]
def acJ(x:Nd):ndK x=CW x:=by cases x;rfl
def MK(l:List Nd):BC l=rows CW l:=by
 induction l with
 | nil=>rfl
 | cons k ks ih=>rw[Fv,BC,ih,acJ]
mutual
def atN:∀x:Nd,Bz (ndK x)=true
 | ⟨kind,name,unit,n,fr,to,known,BK,kids,Bc⟩=>by rw[ndK];exact(Hj rfl (Hj rfl (Hj rfl (Hj rfl (Hj rfl (Hj rfl (Hj rfl (Hj rfl (Hj (N5.tT BK.ps) (Hj (aZD (agM kids)) (Hj rfl rfl)))))))))))
def agM:∀l:List Nd,Bz (BC l)=true
 | []=>rfl
 | k::ks=>by rw[BC];exact xF (atN k) (agM ks)
end
def GG:Mi CW BC 11:=⟨MK,λ_=>rfl,λx=>by rw[<- acJ];exact atN x⟩
structure Ex where
 op:Int
 n:Int
 unit:ByteArray
 BK:Fn
 kids:(List Ex)
mutual
def exK:Ex->List AV
 | ⟨op,n,unit,BK,kids⟩=>[.sc (.int .i64 op),.sc (.int .i64 n),.sc (.string unit),.sc (.int .i64 BK.den),.sl .lost BK.ps.length (rows Ov BK.ps),.sl .lost kids.length (V1 kids)]
def V1:List Ex->List AV
 | []=>[]
 | k::ks=>exK k++V1 ks
end
def exC(x:Ex):List AV:=[.sc (.int .i64 x.op),.sc (.int .i64 x.n),.sc (.string x.unit),.sc (.int .i64 x.BK.den),.sl .lost x.BK.ps.length (rows Ov x.BK.ps),.sl .lost x.kids.length (V1 x.kids)]
def aaZ(x:Ex):exK x=exC x:=by cases x;rfl
def azX(l:List Ex):V1 l=rows exC l:=by
 induction l with
 | nil=>rfl
 | cons k ks ih=>rw[Fv,V1,ih,aaZ]
mutual
def apU:∀x:Ex,Bz (exK x)=true
 | ⟨op,n,unit,BK,kids⟩=>by rw[exK];exact(Hj rfl (Hj rfl (Hj rfl (Hj rfl (Hj (N5.tT BK.ps) (Hj (aZD (afB kids)) rfl))))))
def afB:∀l:List Ex,Bz (V1 l)=true
 | []=>rfl
 | k::ks=>by rw[V1];exact xF (apU k) (afB ks)
end
def afT:Mi exC V1 6:=⟨azX,λ_=>rfl,λx=>by rw[<- aaZ];exact apU x⟩
structure Ar where
 number:Int
 line:Int
 bgI:Int
 fr:Int
 to:Int
 known:Int
 wh:(List Ex)
 un:(List Int)
 am:Ex
def arC(x:Ar):List AV:=[.sc (.int .i64 x.number),.sc (.int .i64 x.line),.sc (.int .i64 x.bgI),.sc (.int .i64 x.fr),.sc (.int .i64 x.to),.sc (.int .i64 x.known),.sl .lost x.wh.length (V1 x.wh),.sl .lost x.un.length (rows inC x.un),.sc (.int .i64 x.am.op),.sc (.int .i64 x.am.n),.sc (.string x.am.unit),.sc (.int .i64 x.am.BK.den),.sl .lost x.am.BK.ps.length (rows Ov x.am.BK.ps),.sl .lost x.am.kids.length (V1 x.am.kids)]
def asO:Mi arC (rows arC) 14:=⟨λ_=>rfl,λ_=>rfl,λx=>(Hj rfl (Hj rfl (Hj rfl (Hj rfl (Hj rfl (Hj rfl (Hj (afT.tT x.wh) (Hj (fN.tT x.un) (xF (afT.pl x.am) rfl)))))))))⟩
structure Dc where
 name:ByteArray
 unit:ByteArray
 bgL:Int
def dcC(x:Dc):List AV:=[.sc (.string x.name),.sc (.string x.unit),.sc (.int .i64 x.bgL)]
def afS:Mi dcC (rows dcC) 3:=⟨λ_=>rfl,λ_=>rfl,λx=>(Hj rfl (Hj rfl (Hj rfl rfl)))⟩
structure Co where
 facts:(List Dc)
 lines:(List Dc)
 aMF:(List Ar)
def coC(x:Co):List AV:=[.sl .lost x.facts.length (rows dcC x.facts),.sl .lost x.lines.length (rows dcC x.lines),.sl .lost x.aMF.length (rows arC x.aMF)]
def aJA:Mi coC (rows coC) 3:=⟨λ_=>rfl,λ_=>rfl,λx=>(Hj (afS.tT x.facts) (Hj (afS.tT x.lines) (Hj (asO.tT x.aMF) rfl)))⟩
structure Tk where
 kind:Int
 text:ByteArray
 Bc:Int
def OT(x:Tk):List AV:=[.sc (.int .i64 x.kind),.sc (.string x.text),.sc (.int .i64 x.Bc)]
def fO:Mi OT (rows OT) 3:=⟨λ_=>rfl,λ_=>rfl,λx=>(Hj rfl (Hj rfl (Hj rfl rfl)))⟩
structure Dg where
 err:Int
 Bc:Int
def dS(x:Dg):List AV:=[.sc (.int .i64 x.err),.sc (.int .i64 x.Bc)]
def nA:Mi dS (rows dS) 2:=⟨λ_=>rfl,λ_=>rfl,λx=>(Hj rfl (Hj rfl rfl))⟩
structure Pr where
 Bd:(List Tk)
 Na:Int
 Dt:Int
def prC(x:Pr):List AV:=[.sl .lost x.Bd.length (rows OT x.Bd),.sc (.int .i64 x.Na),.sc (.int .i64 x.Dt)]
def aJD:Mi prC (rows prC) 3:=⟨λ_=>rfl,λ_=>rfl,λx=>(Hj (fO.tT x.Bd) (Hj rfl (Hj rfl rfl)))⟩
structure Ps where
 l:(List Tk)
 at_:Int
 end_:Int
 err:Int
 aVW:Int
def psC(x:Ps):List AV:=[.sl .lost x.l.length (rows OT x.l),.sc (.int .i64 x.at_),.sc (.int .i64 x.end_),.sc (.int .i64 x.err),.sc (.int .i64 x.aVW)]
def aJE:Mi psC (rows psC) 5:=⟨λ_=>rfl,λ_=>rfl,λx=>(Hj (fO.tT x.l) (Hj rfl (Hj rfl (Hj rfl (Hj rfl rfl)))))⟩
structure Ck where
 nodes:Int
def Te(x:Ck):List AV:=[.sc (.int .i64 x.nodes)]
def aIZ:Mi Te (rows Te) 1:=⟨λ_=>rfl,λ_=>rfl,λx=>(Hj rfl rfl)⟩
structure Cq where
 src:Nd
 aoV:(List Dg)
def cqC(x:Cq):List AV:=[.sc (.int .i64 x.src.kind),.sc (.string x.src.name),.sc (.string x.src.unit),.sc (.int .i64 x.src.n),.sc (.int .i64 x.src.fr),.sc (.int .i64 x.src.to),.sc (.int .i64 x.src.known),.sc (.int .i64 x.src.BK.den),.sl .lost x.src.BK.ps.length (rows Ov x.src.BK.ps),.sl .lost x.src.kids.length (BC x.src.kids),.sc (.int .i64 x.src.Bc),.sl .lost x.aoV.length (rows dS x.aoV)]
def aJB:Mi cqC (rows cqC) 12:=⟨λ_=>rfl,λ_=>rfl,λx=>(xF (GG.pl x.src) (Hj (nA.tT x.aoV) rfl))⟩
structure Ft where
 aVM:Co
 lines:(Mm Int Int)
 nodes:Int
structure Sc where
 facts:(Mm ByteArray ByteArray)
 lines:(Mm ByteArray ByteArray)
 anJ:(Mm Int ByteArray)
structure Tr where
 aVM:Co
 facts:(Mm ByteArray Int)
 lines:(Mm ByteArray Int)
 anJ:(Mm Int Int)
def u24:P.underlying 24=some (.slice 64):=by kernel_rfl
def s64:(P.info? 64).map (·.size)=some 3:=by kernel_rfl
def i64:(P.info? 64).map (λi=>(i.size,i.bytes,i.zero.map (·.cells.size)))=some (3,24,some 3):=by kernel_rfl
def qV(own:AI.Own){l:List Pc}{i:Nat}{x:Pc}(h:l[i]?=some x):CO P 24 (.sl own l.length (rows Ov l)) (.sc (.int .i64 ((i:Nat):Int)))=some (.el (Ov x++rows Ov (l.drop (i+1)))):=N5.ix u24 s64 own h
def aIU(own:AI.Own){l:List Pc}{z:Int}{x:Pc}(h:F9 l z=some x):CO P 24 (.sl own l.length (rows Ov l)) (.sc (.int .i64 z))=some (.el (Ov x++rows Ov (l.drop (z.toNat+1)))):=N5.ixz u24 s64 own h
def aWI(own:AI.Own)(l m:List Pc){o:AI.Own}{n:Nat}{ns:List AV}(hn:Wn ns (rows Ov m))(vY:n=m.length)(ho:ns.all one=true)(hm:m.length≠0)(hlen:l.length+m.length<=100000000):Cd.ok P G0 (.jU 24 24 own l.length (rows Ov l) (.sl o n ns) 3 (l++m).length (rows Ov (l++m))):=N5.jU u24 u24 i64 (by decide) (by decide) own l m hn vY ho hm hlen
def bbR(own:AI.Own)(l m:List Pc){o:AI.Own}(s:AS)(hm:m.length=0)(hlen:l.length+m.length<=100000000):Cd.ok P G0 (.WY s 24 24 (.sl own l.length (rows Ov l)) (.sl o m.length (rows Ov m)) (.sl own l.length (rows Ov l)) s):=N5.ga u24 u24 i64 (by decide) (by decide) own l m s hm hlen
def u27:P.underlying 27=some (.slice 29):=by kernel_rfl
def s29:(P.info? 29).map (·.size)=some 11:=by kernel_rfl
def i29:(P.info? 29).map (λi=>(i.size,i.bytes,i.zero.map (·.cells.size)))=some (11,136,some 11):=by kernel_rfl
def Du(own:AI.Own){l:List Nd}{i:Nat}{x:Nd}(h:l[i]?=some x):CO P 27 (.sl own l.length (BC l)) (.sc (.int .i64 ((i:Nat):Int)))=some (.el (CW x++BC (l.drop (i+1)))):=GG.ix u27 s29 own h
def VA(own:AI.Own)(l m:List Nd){o:AI.Own}{n:Nat}{ns:List AV}(hn:Wn ns (BC m))(vY:n=m.length)(ho:ns.all one=true)(hm:m.length≠0)(hlen:l.length+m.length<=100000000):Cd.ok P G0 (.jU 27 27 own l.length (BC l) (.sl o n ns) 11 (l++m).length (BC (l++m))):=GG.jU u27 u27 i29 (by decide) (by decide) own l m hn vY ho hm hlen
def aqH(own:AI.Own)(l m:List Nd){o:AI.Own}{n:Nat}{ns cs:List AV}(e:cs=BC l)(hn:Wn ns (BC m))(vY:n=m.length)(ho:ns.all one=true)(hm:m.length≠0)(hlen:l.length+m.length<=100000000):Cd.ok P G0 (.jU 27 27 own l.length cs (.sl o n ns) 11 (l++m).length (BC (l++m))):=e▸VA own l m hn vY ho hm hlen
def aWH(own:AI.Own)(l m:List Nd){o:AI.Own}(hm:¬m.length=0)(hlen:l.length+m.length<=100000000):Cd.ok P G0 (.jU 27 27 own l.length (BC l) (.sl o m.length (BC m)) 11 (l++m).length (BC (l++m))):=GG.jU u27 u27 i29 (by decide) (by decide) own l m (Wn.refl _) rfl (GG.aaF (λ_=>rfl) m) hm hlen
def aUY(m:List Nd){o:AI.Own}(hm:¬m.length=0)(hlen:m.length<=100000000):Cd.ok P G0 (.apB 27 27 (.sl .full 0 []) (.sl o m.length (BC m)) m.length (.cells (BC m))):=GG.apm u27 u27 i29 (by decide) (by decide) (λ_=>rfl) m hm hlen
def bbS(own:AI.Own)(l m:List Nd){o:AI.Own}(s:AS)(hm:m.length=0)(hlen:l.length+m.length<=100000000):Cd.ok P G0 (.WY s 27 27 (.sl own l.length (BC l)) (.sl o m.length (BC m)) (.sl own l.length (BC l)) s):=GG.ga u27 u27 i29 (by decide) (by decide) own l m s hm hlen
def u30:P.underlying 30=some (.slice 45):=by kernel_rfl
def s45:(P.info? 45).map (·.size)=some 2:=by kernel_rfl
def i45:(P.info? 45).map (λi=>(i.size,i.bytes,i.zero.map (·.cells.size)))=some (2,16,some 2):=by kernel_rfl
def aBI(own:AI.Own){l:List Dg}{i:Nat}{x:Dg}(h:l[i]?=some x):CO P 30 (.sl own l.length (rows dS l)) (.sc (.int .i64 ((i:Nat):Int)))=some (.el (dS x++rows dS (l.drop (i+1)))):=nA.ix u30 s45 own h
def aWJ(own:AI.Own)(l m:List Dg){o:AI.Own}{n:Nat}{ns:List AV}(hn:Wn ns (rows dS m))(vY:n=m.length)(ho:ns.all one=true)(hm:m.length≠0)(hlen:l.length+m.length<=100000000):Cd.ok P G0 (.jU 30 30 own l.length (rows dS l) (.sl o n ns) 2 (l++m).length (rows dS (l++m))):=nA.jU u30 u30 i45 (by decide) (by decide) own l m hn vY ho hm hlen
def u38:P.underlying 38=some (.slice 43):=by kernel_rfl
def s43:(P.info? 43).map (·.size)=some 3:=by kernel_rfl
def i43:(P.info? 43).map (λi=>(i.size,i.bytes,i.zero.map (·.cells.size)))=some (3,32,some 3):=by kernel_rfl
def asF(own:AI.Own){l:List Tk}{z:Int}{x:Tk}(h:F9 l z=some x):CO P 38 (.sl own l.length (rows OT l)) (.sc (.int .i64 z))=some (.el (OT x++rows OT (l.drop (z.toNat+1)))):=fO.ixz u38 s43 own h
def aWK(own:AI.Own)(l m:List Tk){o:AI.Own}{n:Nat}{ns:List AV}(hn:Wn ns (rows OT m))(vY:n=m.length)(ho:ns.all one=true)(hm:m.length≠0)(hlen:l.length+m.length<=100000000):Cd.ok P G0 (.jU 38 38 own l.length (rows OT l) (.sl o n ns) 3 (l++m).length (rows OT (l++m))):=fO.jU u38 u38 i43 (by decide) (by decide) own l m hn vY ho hm hlen
def u52:P.underlying 52=some (.slice 5):=by kernel_rfl
def s5:(P.info? 5).map (·.size)=some 1:=by kernel_rfl
def i5:(P.info? 5).map (λi=>(i.size,i.bytes,i.zero.map (·.cells.size)))=some (1,1,some 1):=by kernel_rfl
def u57:P.underlying 57=some (.slice 9):=by kernel_rfl
def s9:(P.info? 9).map (·.size)=some 1:=by kernel_rfl
def i9:(P.info? 9).map (λi=>(i.size,i.bytes,i.zero.map (·.cells.size)))=some (1,16,some 1):=by kernel_rfl
def aQP(own:AI.Own){l:List ByteArray}{i:Nat}{x:ByteArray}(h:l[i]?=some x):CO P 57 (.sl own l.length (rows stC l)) (.sc (.int .i64 ((i:Nat):Int)))=some (.el (stC x++rows stC (l.drop (i+1)))):=T4.ix u57 s9 own h
def aYD(own:AI.Own){l:List ByteArray}{z:Int}{x:ByteArray}(h:F9 l z=some x):CO P 57 (.sl own l.length (rows stC l)) (.sc (.int .i64 z))=some (.el (stC x++rows stC (l.drop (z.toNat+1)))):=T4.ixz u57 s9 own h
def aFQ:P.underlying 174=some (.slice 176):=by kernel_rfl
def aZQ:(P.info? 176).map (·.size)=some 4:=by kernel_rfl
def i176:(P.info? 176).map (λi=>(i.size,i.bytes,i.zero.map (·.cells.size)))=some (4,32,some 4):=by kernel_rfl
def aYC(own:AI.Own){l:List Pt}{i:Nat}{x:Pt}(h:l[i]?=some x):CO P 174 (.sl own l.length (rows nO l)) (.sc (.int .i64 ((i:Nat):Int)))=some (.el (nO x++rows nO (l.drop (i+1)))):=nB.ix aFQ aZQ own h
def aQR(own:AI.Own){l:List Pt}{z:Int}{x:Pt}(h:F9 l z=some x):CO P 174 (.sl own l.length (rows nO l)) (.sc (.int .i64 z))=some (.el (nO x++rows nO (l.drop (z.toNat+1)))):=nB.ixz aFQ aZQ own h
def aNV(own:AI.Own)(l m:List Pt){o:AI.Own}{n:Nat}{ns:List AV}(hn:Wn ns (rows nO m))(vY:n=m.length)(ho:ns.all one=true)(hm:m.length≠0)(hlen:l.length+m.length<=100000000):Cd.ok P G0 (.jU 174 174 own l.length (rows nO l) (.sl o n ns) 4 (l++m).length (rows nO (l++m))):=nB.jU aFQ aFQ i176 (by decide) (by decide) own l m hn vY ho hm hlen
def s3:(P.info? 3).map (·.size)=some 1:=by kernel_rfl
def i3:(P.info? 3).map (λi=>(i.size,i.bytes,i.zero.map (·.cells.size)))=some (1,8,some 1):=by kernel_rfl
def aIT{id n i:Nat}(h:i < n):CO P 27 (.msl id 0 n) (.sc (.int .i64 ((i:Nat):Int)))=some (.ptr id (0+i*11)):=GG.ixm u27 s29 h
def lT(x:Int):Int:=bmJ.wrap (0 - x)
def w64(x:Int):Int:=bmJ.wrap x
def w8(x:Int):Int:=IntKind.u8.wrap x
def Ux(x y:Int):Int:=bmJ.wrap (x.tdiv y)
def NA(x y:Int):Int:=x.tmod y
def Oj(x y:Int):Option Int:=if y=0 then none else some (Ux x y)
def Xm(x y:Int):Option Int:=if y=0 then none else some (NA x y)
def RV(s:ByteArray)(l h:Int):Option ByteArray:=if 0<=l/\l<=h/\h<=((s.data.toList.length:Nat):Int) then some ⟨((s.data.toList.drop l.toNat).take (h.toNat - l.toNat)).toArray⟩ else none
def Vm{α:Type}(s:List α)(l h:Int):Option (List α):=if 0<=l/\l<=h/\h<=((s.length:Nat):Int) then some ((s.drop l.toNat).take (h.toNat - l.toNat)) else none
def oY(z:Int)(h:0<=z):Tc (.sc (.int .i64 z))=some z.toNat:=by unfold Tc;simp[h]
def MN{a b c:Int}(h:Oj a b=some c)(x y:Operand):LG P .quo 3 x y (.sc (.int .i64 a)) (.sc (.int .i64 b))=some (.sc (.int .i64 c)):=by
 unfold Oj at h;split at h;cases h;rename_i hb;cases h;simp[LG,SY,X9,eqGuard,binOp,Op.intDiv,hb,AI.pv,lL,scalar,Ux,Bind.bind,Sem.bind,Pure.pure]
def bY{a b c:Int}(h:Xm a b=some c)(x y:Operand):LG P .rem 3 x y (.sc (.int .i64 a)) (.sc (.int .i64 b))=some (.sc (.int .i64 c)):=by
 unfold Xm at h;split at h;cases h;rename_i hb;cases h;simp[LG,SY,X9,eqGuard,binOp,Op.intDiv,hb,AI.pv,lL,scalar,NA,Bind.bind,Sem.bind,Pure.pure]
def us9:P.underlying 9=some .string:=by kernel_rfl
def Bv{x y:ByteArray}(h:x.data.toList.length+y.data.toList.length<=9223372036854775807)(ox oy:Operand):LG P .add 9 ox oy (.sc (.string x)) (.sc (.string y))=some (.sc (.string (x++y))):=aMQ h ox oy
def Xy{s:ByteArray}{i:Nat}{c:UInt8}(h:s.data.toList[i]?=some c):LH P 9 (.sc (.string s)) (.sc (.int .i64 ((i:Nat):Int)))=some (.sc (.int .u8 ((c.toNat:Nat):Int))):=by
 unfold LH;rw[us9,oY _ (by omega)];simp only[Int.toNat_natCast,h]
def N3{s:ByteArray}{z:Int}{c:UInt8}(h:F9 s.data.toList z=some c):LH P 9 (.sc (.string s)) (.sc (.int .i64 z))=some (.sc (.int .u8 ((c.toNat:Nat):Int))):=by
 unfold F9 at h;split at h;rename_i hz;have:=Xy h;rwa[Int.toNat_of_nonneg hz] at this;cases h
def MA{s v:ByteArray}{l h:Int}(e:RV s l h=some v):Mn P 9 (.sc (.string s)) (some (.sc (.int .i64 l))) (some (.sc (.int .i64 h))) none=some (.sc (.string v)):=by
 unfold RV at e;split at e;rename_i hc;cases e;unfold Mn;rw[us9];simp only[OW,oY l hc.1,oY h (by omega)];rw[if_pos ⟨by omega,by omega⟩];cases e
def aEW(l h:Nat){s:List Nd}(h1:l<=h)(h2:h<=s.length)(lo hi:Option AV)(e1:OW 0 lo=some l)(e2:OW s.length hi=some h):Mn P 27 (.sl .lost s.length (BC s)) lo hi none=some (.sl .lost ((s.drop l).take (h - l)).length (BC ((s.drop l).take (h - l)))):=GG.sub u27 s29 l h h1 h2 lo hi e1 e2
def QI{s v:List Nd}{l:Int}(e:Vm s l ((s.length:Nat):Int)=some v):Mn P 27 (.sl .lost s.length (BC s)) (some (.sc (.int .i64 l))) (none) none=some (.sl .lost v.length (BC v)):=by
 unfold Vm at e;split at e;rename_i hc;cases e;exact aEW _ _ (by omega) (by omega) _ _ (oY l hc.1) rfl;cases e
def Rg(x y:Pc):Bool:=x.fr == y.fr&&(x.Bc == y.Bc&&(x.BJ == y.BJ))
def adG(x y:Pc):kF [.int .i64 x.fr,.int .i64 x.Bc,.int .i64 x.BJ] [.int .i64 y.fr,.int .i64 y.Bc,.int .i64 y.BJ]=some (Rg x y):=by
 simp only[kF,fEq,Rg,if_true,NF];cases (x.fr == y.fr)<;>cases (x.Bc == y.Bc)<;>cases (x.BJ == y.BJ)<;>rfl
def aNL:Flat P 64 [1,1,1]:=⟨by kernel_rfl,by kernel_rfl,by kernel_rfl,by kernel_rfl,by kernel_rfl,by kernel_rfl⟩
def nF{x y:Pc}{b:Bool}(h:Rg x y=b)(ox oy:Operand):LG P .neq 64 ox oy (.agg (Ov x)) (.agg (Ov y))=some (.sc (.bool (!b))):=by
 subst h;exact(aNL.bin (us:=[.int .i64 x.fr,.int .i64 x.Bc,.int .i64 x.BJ]) (vs:=[.int .i64 y.fr,.int .i64 y.Bc,.int .i64 y.BJ]) ⟨.inl ⟨_,rfl,rfl⟩,⟨.inl ⟨_,rfl,rfl⟩,⟨.inl ⟨_,rfl,rfl⟩,trivial⟩⟩⟩ ⟨.inl ⟨_,rfl,rfl⟩,⟨.inl ⟨_,rfl,rfl⟩,⟨.inl ⟨_,rfl,rfl⟩,trivial⟩⟩⟩ (adG x y) ox oy).2
def sF(x y:Dg):Bool:=x.err == y.err&&(x.Bc == y.Bc)
def adE(x y:Dg):kF [.int .i64 x.err,.int .i64 x.Bc] [.int .i64 y.err,.int .i64 y.Bc]=some (sF x y):=by
 simp only[kF,fEq,sF,if_true,NF];cases (x.err == y.err)<;>cases (x.Bc == y.Bc)<;>rfl
def aNK:Flat P 45 [1,1]:=⟨by kernel_rfl,by kernel_rfl,by kernel_rfl,by kernel_rfl,by kernel_rfl,by kernel_rfl⟩
def aJL{x y:Dg}{b:Bool}(h:sF x y=b)(ox oy:Operand):LG P .neq 45 ox oy (.agg (dS x)) (.agg (dS y))=some (.sc (.bool (!b))):=by
 subst h;exact(aNK.bin (us:=[.int .i64 x.err,.int .i64 x.Bc]) (vs:=[.int .i64 y.err,.int .i64 y.Bc]) ⟨.inl ⟨_,rfl,rfl⟩,⟨.inl ⟨_,rfl,rfl⟩,trivial⟩⟩ ⟨.inl ⟨_,rfl,rfl⟩,⟨.inl ⟨_,rfl,rfl⟩,trivial⟩⟩ (adE x y) ox oy).2
def aTG(l:List Int):ByteArray:=⟨(l.map λx=>bnU x.toNat).toArray⟩
def ahK:∀l:List Int,AI.bytesOf (rows u8C l)=some (l.map λx=>bnU x.toNat)
 | []=>rfl
 | x::l=>by
   rw[Fv];show(match AI.byteOf (.sc (.int .u8 x)),AI.bytesOf (rows u8C l) with | some b,some m=>some (b::m) | _,_=>none)=_
   rw[ahK l];rfl
def aMV(own:AI.Own)(l:List Int):Ty P 52 9 (.sl own l.length (rows u8C l))=some (.sc (.string (aTG l))):=by
 have hl:l.length=(rows u8C l).length:=by rw[IA (f:=u8C) (k:=1) (λ_=>rfl) l];omega
 unfold Ty;rw[u52,us9];have h8:P.underlying 5=some (.int .u8):=by kernel_rfl
 simp only[h8];rw[if_pos hl,ahK];rfl
def beforeL:List Int:=[0,31,59,90,120,151,181,212,243,273,304,334,365]
def abX{z:Int}{x:Int}(h:F9 beforeL z=some x):CO P 203 (.el (rows inC beforeL)) (.sc (.int .i64 z))=some (.el (inC x++rows inC (beforeL.drop (z.toNat+1)))):=fN.ixa (elem:=3) (len:=13) (by kernel_rfl) (by kernel_rfl) rfl h
def ajA{a b:ByteArray}{q:Bool}(h:some (BD a.data.toList b.data.toList)=some q)(x y:Operand):LG P .eql 9 x y (.sc (.string a)) (.sc (.string b))=some (.sc (.bool q)):=by
 rw[<- Tx];cases h
 kernel_rfl
def ajB{a b:Int}{q:Bool}(h:some (Dd b a)=some q)(x y:Operand):LG P .gtr 3 x y (.sc (.int .i64 a)) (.sc (.int .i64 b))=some (.sc (.bool q)):=by
 rw[<- Tx];cases h
 kernel_rfl
def bbD{a b:Int}{q:Bool}(h:some (LS a b)=some q)(x y:Operand):LG P .leq 3 x y (.sc (.int .i64 a)) (.sc (.int .i64 b))=some (.sc (.bool q)):=by
 rw[<- Tx];cases h
 kernel_rfl
def xN:ByteArray:=⟨#[10]⟩
def lH:ByteArray:=⟨#[32]⟩
def YP:ByteArray:=⟨#[32,40]⟩
def C8:ByteArray:=⟨#[32,43,32]⟩
def C9:ByteArray:=⟨#[32,45,32]⟩
def BV:ByteArray:=⟨#[32,58,32]⟩
def Ct:ByteArray:=⟨#[32,97,109,111,117,110,116,32]⟩
def CZ:ByteArray:=⟨#[32,102,111,114,32]⟩
def DI:ByteArray:=⟨#[32,102,114,111,109,32]⟩
def Cn:ByteArray:=⟨#[32,107,110,111,119,110,32]⟩
def Sw:ByteArray:=⟨#[32,109,105,110]⟩
def CU:ByteArray:=⟨#[32,114,97,110,107,32]⟩
def Lh:ByteArray:=⟨#[32,116,111,32]⟩
def DJ:ByteArray:=⟨#[32,117,110,108,101,115,115,32]⟩
def DK:ByteArray:=⟨#[32,119,104,101,110,32]⟩
def PD:ByteArray:=⟨#[32,123]⟩
def PE:ByteArray:=⟨#[32,125]⟩
def J6:ByteArray:=⟨#[33,61]⟩
def Ec:ByteArray:=⟨#[40]⟩
def CX:ByteArray:=⟨#[41]⟩
def Ug:ByteArray:=⟨#[41,32]⟩
def PF:ByteArray:=⟨#[41,32,47,32]⟩
def Ve:ByteArray:=⟨#[42]⟩
def Sx:ByteArray:=⟨#[43]⟩
def G3:ByteArray:=⟨#[44]⟩
def F5:ByteArray:=⟨#[44,32]⟩
def Fj:ByteArray:=⟨#[45]⟩
def Sy:ByteArray:=⟨#[46]⟩
def BI:ByteArray:=⟨#[47]⟩
def acS:ByteArray:=⟨#[47,47]⟩
def acT:ByteArray:=⟨#[48]⟩
def PG:ByteArray:=⟨#[58]⟩
def CV:ByteArray:=⟨#[59]⟩
def YQ:ByteArray:=⟨#[59,32]⟩
def Mg:ByteArray:=⟨#[60]⟩
def Jt:ByteArray:=⟨#[60,61]⟩
def I4:ByteArray:=⟨#[61,61]⟩
def Qf:ByteArray:=⟨#[62]⟩
def L5:ByteArray:=⟨#[62,61]⟩
def aS:ByteArray:=⟨#[97]⟩
def Nq:ByteArray:=⟨#[97,32,60,32,98,32,60,32,99]⟩
def EU:ByteArray:=⟨#[97,32,62,32,51,32,97,110,100,32,110,111,116,32,98,32,61,61,32,99]⟩
def GU:ByteArray:=⟨#[97,109,111,117,110,116]⟩
def QR:ByteArray:=⟨#[97,110,100]⟩
def VV:ByteArray:=⟨#[97,114,116]⟩
def Sz:ByteArray:=⟨#[97,114,116,32]⟩
def Dx:ByteArray:=⟨#[97,114,116,105,99,108,101]⟩
def Bu:ByteArray:=⟨#[97,114,116,105,99,108,101,32]⟩
def uK:ByteArray:=⟨#[97,116]⟩
def bS:ByteArray:=⟨#[98]⟩
def cS:ByteArray:=⟨#[99]⟩
def Yr:ByteArray:=⟨#[100,97,121]⟩
def R8:ByteArray:=⟨#[100,101,100,117,99,116]⟩
def dW:ByteArray:=⟨#[101,97,114,110]⟩
def M6:ByteArray:=⟨#[102,97,99,116]⟩
def I5:ByteArray:=⟨#[102,97,99,116,32]⟩
def Ed:ByteArray:=⟨#[102,97,99,116,32,114,97,116,101,32,58,32,69,85,82,32,108,105,110,101,32,120]⟩
def O3:ByteArray:=⟨#[102,97,108,115,101]⟩
def V2:ByteArray:=⟨#[102,108,111,111,114]⟩
def V3:ByteArray:=⟨#[102,111,114]⟩
def NY:ByteArray:=⟨#[102,114,111,109]⟩
def FX:ByteArray:=⟨#[103,114,101,97,116,101,115,116]⟩
def EF:ByteArray:=⟨#[104,111,117,114,115,32,97,116,32,114,97,116,101,32,43,32,97,114,116,32,51]⟩
def fF:ByteArray:=⟨#[105,110,102,111]⟩
def IY:ByteArray:=⟨#[107,110,111,119,110]⟩
def KA:ByteArray:=⟨#[108,101,97,115,116]⟩
def JU:ByteArray:=⟨#[108,105,110,101]⟩
def Gm:ByteArray:=⟨#[108,105,110,101,32]⟩
def Ak:ByteArray:=⟨#[108,105,110,101,32,112,97,121,32,58,32,69,85,82,32,101,97,114,110,59,32,97,114,116,105,99,108,101,32,51,32,102,111,114,32,112,97,121,32,114,97,110,107,32,49,32,102,114,111,109,32,50,48,50,52,45,48,49,45,48,49,32,107,110,111,119,110,32,50,48,50,52,45,48,49,45,48,49,32,123,32,97,109,111,117,110,116,32,69,85,82,32,49,46,53,48,59,32,125]⟩
def fX:ByteArray:=⟨#[109,105,110]⟩
def Dz:ByteArray:=⟨#[109,105,110,117,116,101,115]⟩
def Mv:ByteArray:=⟨#[109,111,110,116,104]⟩
def LB:ByteArray:=⟨#[110,111,116]⟩
def L6:ByteArray:=⟨#[110,111,116,32,40]⟩
def Cp:ByteArray:=⟨#[110,117,109,98,101,114]⟩
def rR:ByteArray:=⟨#[111,114]⟩
def Ml:ByteArray:=⟨#[114,97,110,107]⟩
def IE:ByteArray:=⟨#[116,97,98,108,101]⟩
def GM:ByteArray:=⟨#[116,97,98,108,101,40]⟩
def Br:ByteArray:=⟨#[116,97,98,108,101,40,120,59,32,48,32,58,32,48,46,48,48,32,43,32,49,47,49,48,44,32,53,48,48,46,48,48,32,58,32,53,48,46,48,48,32,43,32,49,47,52,41]⟩
def toS:ByteArray:=⟨#[116,111]⟩
def Uu:ByteArray:=⟨#[116,114,117,101]⟩
def E8:ByteArray:=⟨#[116,114,117,116,104]⟩
def Ho:ByteArray:=⟨#[117,110,108,101,115,115]⟩
def IG:ByteArray:=⟨#[119,101,101,107,100,97,121]⟩
def Nx:ByteArray:=⟨#[119,104,101,110]⟩
def RY:ByteArray:=⟨#[121,101,97,114]⟩
def aC:ByteArray:=⟨#[123]⟩
def Uh:ByteArray:=⟨#[125]⟩
end Mo
end Go.Proofs.YtpbkhogolfegfaaGreatDoor
namespace Go.Proofs.YtpbkhogolfegfaaGreatDoor
open AI Go
namespace Mo
set_option maxRecDepth 100000
set_option maxHeartbeats 4000000
def aRR(x:Pc):Prop:=(-9223372036854775808<=x.fr/\x.fr<=9223372036854775807)/\(-9223372036854775808<=x.Bc/\x.Bc<=9223372036854775807)/\(-9223372036854775808<=x.BJ/\x.BJ<=9223372036854775807)
def wY(x:Fn):Prop:=x.ps.length<=9223372036854775807/\(∀y∈x.ps,aRR y)
mutual
def GZ:Nd->Prop
 | ⟨kind,name,unit,n,fr,to,known,BK,kids,Bc⟩=>wY BK/\kids.length<=9223372036854775807/\wZ kids
def wZ:List Nd->Prop
 | []=>True
 | k::ks=>GZ k/\wZ ks
end
def nI{l:List Nd}:wZ l↔∀k∈l,GZ k:=by
 induction l with
 | nil=>simp[wZ]
 | cons k l ih=>simp[wZ,ih]
def Pf(x:Nd):GZ x↔wY x.BK/\x.kids.length<=9223372036854775807/\∀y∈x.kids,GZ y:=by
 cases x;rw[GZ,nI]
end Mo
end Go.Proofs.YtpbkhogolfegfaaGreatDoor
