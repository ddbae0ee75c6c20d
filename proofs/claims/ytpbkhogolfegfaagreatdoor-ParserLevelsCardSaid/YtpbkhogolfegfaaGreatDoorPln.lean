/- Part of a proof: see the last text. -/
import Derived.Test.YtpbkhogolfegfaaGreatDoorPlm
import Derived.Shelf.Strings.Builder1
import Derived.Shelf.Strings.Builder2
import Derived.Shelf.Strconv.Atoi
import Derived.Shelf.Strconv.Itoa0
import Derived.Shelf.Strconv.Itoa1
import Derived.Shelf.LaysM
import Derived.Shelf.Strconv.Itoa2
import Derived.Shelf.Strconv.Itoa3
import Derived.Shelf.Strconv.AtoiErrFast
import Derived.Shelf.Strconv.ParseIntEmpty
import Derived.Shelf.Strconv.AtoiFail
import Derived.Shelf.Strconv.Clone
import Derived.Shelf.Strconv.SyntaxError
import Derived.Shelf.LaysC
import Derived.Shelf.Strconv.ToError
import Derived.Shelf.Strconv.Lower
import Derived.Shelf.Strconv.ParseUint10
import Derived.Shelf.Strconv.ParseUint10Empty
import Derived.Shelf.Strconv.ParseUint10Any
import Derived.Shelf.Strconv.ParseInt10
import Derived.Shelf.Strconv.AtoiLong
import Derived.Shelf.Strconv.AtoiInnerAll
import Derived.Shelf.Strconv.RangeError
import Derived.Shelf.Strconv.ToErrorRange
import Derived.Shelf.Strconv.AtoiAll
import Derived.Shelf.Strings.Search1
import Derived.Shelf.Strings.Search2
import Derived.Shelf.Strings.Search3
import Derived.Shelf.Strings.Count
import Derived.Shelf.Strings.Shaped
import Derived.Shelf.Strings.Split
import Derived.Shelf.Strings.Replace
import Derived.Shelf.Unicode.DecodeSlow
import Derived.Test.YtpbkhogolfegfaaGreatDoorProg
import Derived.KernelRfl
set_option linter.unusedVariables false
set_option linter.unusedSimpArgs false
set_option linter.defProp false
noncomputable section
namespace Go.Proofs
open Go.Shelf
def Tryz.jG:Go.Shelf.Ren:=⟨λ| 172=>173 | 244=>193 | 245=>194 | 247=>207 | 279=>208 | 280=>209 | 281=>210 | 282=>211 | 287=>224 | 316=>225 | 171=>64 | 205=>226 | 321=>235 | 322=>236 | 243=>114 | 246=>149 | 283=>166 | 284=>167 | 285=>168 | 286=>169 | 129=>189 | 317=>188 | 318=>190 | 319=>191 | 320=>192 | 337=>205 | 338=>206 | n=>n,λ| 9=>9 | 3=>3 | 75=>153 | 76=>154 | 4=>4 | 5=>5 | 167=>182 | 37=>52 | 0=>0 | 85=>183 | 2=>2 | 168=>185 | 53=>146 | 175=>197 | 46=>170 | 210=>201 | 127=>180 | 145=>210 | 143=>208 | 21=>21 | 171=>145 | 173=>149 | 212=>167 | 51=>168 | 20=>20 | 213=>169 | 232=>195 | 233=>196 | 80=>108 | n=>n,λ| 15=>10 | 16=>11 | 17=>4 | 18=>8 | 19=>9 | n=>n⟩
def Tryz.anY:Go.Proofs.Lays.n172 Tryz.prog Tryz.jG:={
 mixed:=by kernel_rfl
 f129:=Tryz.func189.trans (congrArg some (by kernel_rfl))
 f171:=Tryz.func64.trans (congrArg some (by kernel_rfl))
 f172:=Tryz.func173.trans (congrArg some (by kernel_rfl))
 f205:=Tryz.func226.trans (congrArg some (by kernel_rfl))
 f243:=Tryz.func114.trans (congrArg some (by kernel_rfl))
 f244:=Tryz.func193.trans (congrArg some (by kernel_rfl))
 f245:=Tryz.func194.trans (congrArg some (by kernel_rfl))
 f246:=Tryz.func149.trans (congrArg some (by kernel_rfl))
 f247:=Tryz.func207.trans (congrArg some (by kernel_rfl))
 f279:=Tryz.func208.trans (congrArg some (by kernel_rfl))
 f280:=Tryz.func209.trans (congrArg some (by kernel_rfl))
 f281:=Tryz.func210.trans (congrArg some (by kernel_rfl))
 f282:=Tryz.func211.trans (congrArg some (by kernel_rfl))
 f283:=Tryz.func166.trans (congrArg some (by kernel_rfl))
 f284:=Tryz.func167.trans (congrArg some (by kernel_rfl))
 f285:=Tryz.func168.trans (congrArg some (by kernel_rfl))
 f286:=Tryz.func169.trans (congrArg some (by kernel_rfl))
 f287:=Tryz.func224.trans (congrArg some (by kernel_rfl))
 f316:=Tryz.func225.trans (congrArg some (by kernel_rfl))
 f317:=Tryz.func188.trans (congrArg some (by kernel_rfl))
 f318:=Tryz.func190.trans (congrArg some (by kernel_rfl))
 f319:=Tryz.func191.trans (congrArg some (by kernel_rfl))
 f320:=Tryz.func192.trans (congrArg some (by kernel_rfl))
 f321:=Tryz.func235.trans (congrArg some (by kernel_rfl))
 f322:=Tryz.func236.trans (congrArg some (by kernel_rfl))
 f337:=Tryz.func205.trans (congrArg some (by kernel_rfl))
 f338:=Tryz.func206.trans (congrArg some (by kernel_rfl))
 t0:=Tryz.underlying0
 a0:=Tryz.isAgg0
 z0:=Tryz.sizeOf0
 v0:=Tryz.zeroValue0
 t2:=Tryz.underlying2
 a2:=Tryz.isAgg2
 z2:=Tryz.sizeOf2
 v2:=Tryz.zeroValue2
 t3:=Tryz.underlying3
 a3:=Tryz.isAgg3
 z3:=Tryz.sizeOf3
 v3:=Tryz.zeroValue3
 t4:=Tryz.underlying4
 a4:=Tryz.isAgg4
 z4:=Tryz.sizeOf4
 v4:=Tryz.zeroValue4
 t5:=Tryz.underlying5
 a5:=Tryz.isAgg5
 z5:=Tryz.sizeOf5
 v5:=Tryz.zeroValue5
 t9:=Tryz.underlying9
 a9:=Tryz.isAgg9
 z9:=Tryz.sizeOf9
 v9:=Tryz.zeroValue9
 t20:=Tryz.underlying20
 a20:=Tryz.isAgg20
 z20:=Tryz.sizeOf20
 v20:=Tryz.zeroValue20
 t21:=Tryz.underlying21
 a21:=Tryz.isAgg21
 z21:=Tryz.sizeOf21
 v21:=Tryz.zeroValue21
 t37:=Tryz.underlying52
 a37:=Tryz.isAgg52
 z37:=Tryz.sizeOf52
 v37:=Tryz.zeroValue52
 t46:=Tryz.underlying170
 a46:=Tryz.isAgg170
 z46:=Tryz.sizeOf170
 v46:=Tryz.zeroValue170
 t51:=Tryz.underlying168
 a51:=Tryz.isAgg168
 z51:=Tryz.sizeOf168
 v51:=Tryz.zeroValue168
 t53:=Tryz.underlying146
 a53:=Tryz.isAgg146
 z53:=Tryz.sizeOf146
 v53:=Tryz.zeroValue146
 t75:=Tryz.underlying153
 a75:=Tryz.isAgg153
 z75:=Tryz.sizeOf153
 v75:=Tryz.zeroValue153
 t76:=Tryz.underlying154
 a76:=Tryz.isAgg154
 z76:=Tryz.sizeOf154
 v76:=Tryz.zeroValue154
 t85:=Tryz.underlying183
 a85:=Tryz.isAgg183
 z85:=Tryz.sizeOf183
 v85:=Tryz.zeroValue183
 t127:=Tryz.underlying180
 a127:=Tryz.isAgg180
 z127:=Tryz.sizeOf180
 v127:=Tryz.zeroValue180
 t143:=Tryz.underlying208
 a143:=Tryz.isAgg208
 z143:=Tryz.sizeOf208
 v143:=Tryz.zeroValue208
 t145:=Tryz.underlying210
 a145:=Tryz.isAgg210
 z145:=Tryz.sizeOf210
 v145:=Tryz.zeroValue210
 t167:=Tryz.underlying182
 a167:=Tryz.isAgg182
 z167:=Tryz.sizeOf182
 v167:=Tryz.zeroValue182
 t168:=Tryz.underlying185
 a168:=Tryz.isAgg185
 z168:=Tryz.sizeOf185
 v168:=Tryz.zeroValue185
 t171:=Tryz.underlying145
 a171:=Tryz.isAgg145
 z171:=Tryz.sizeOf145
 v171:=Tryz.zeroValue145
 t173:=Tryz.underlying149
 a173:=Tryz.isAgg149
 z173:=Tryz.sizeOf149
 v173:=Tryz.zeroValue149
 t175:=Tryz.underlying197
 a175:=Tryz.isAgg197
 z175:=Tryz.sizeOf197
 v175:=Tryz.zeroValue197
 t210:=Tryz.underlying201
 a210:=Tryz.isAgg201
 z210:=Tryz.sizeOf201
 v210:=Tryz.zeroValue201
 t212:=Tryz.underlying167
 a212:=Tryz.isAgg167
 z212:=Tryz.sizeOf167
 v212:=Tryz.zeroValue167
 t213:=Tryz.underlying169
 a213:=Tryz.isAgg169
 z213:=Tryz.sizeOf169
 t232:=Tryz.underlying195
 a232:=Tryz.isAgg195
 z232:=Tryz.sizeOf195
 v232:=Tryz.zeroValue195
 t233:=Tryz.underlying196
 a233:=Tryz.isAgg196
 z233:=Tryz.sizeOf196
 v233:=Tryz.zeroValue196
 g15:=by kernel_rfl
 g16:=by kernel_rfl
 g17:=by kernel_rfl
 g18:=by kernel_rfl
 g19:=by kernel_rfl }
open Go.RowKit in
def Tryz.strconv_Atoi(s:ByteArray)(n:Int)(hl:s.size<=18)(h:Lib.atoi s.data.toList=some n)(w:World) :
   Calls Tryz.prog 173 #[.string s] w λe w'=>e=.returned (.tuple #[.int .i64 n,.nilIface])/\∃t,w'=Lib.bytesWorld w 5 t:=Any.strconv_Atoi Tryz.anY s n hl h w
def Tryz.Wd:Go.Shelf.Ren:=⟨λ| 154=>163 | 138=>180 | 165=>181 | 143=>182 | 166=>183 | 197=>184 | 169=>185 | 195=>198 | 218=>199 | 240=>200 | 241=>201 | 219=>202 | 260=>203 | 276=>217 | 277=>218 | 217=>219 | 225=>220 | 224=>221 | 267=>222 | 266=>230 | 314=>231 | n=>n,λ| 9=>9 | 3=>3 | 4=>4 | 72=>162 | 0=>0 | 76=>154 | 105=>164 | 21=>21 | 5=>5 | 70=>160 | 20=>20 | 37=>52 | 75=>153 | 127=>180 | 164=>188 | 46=>170 | 119=>191 | 139=>194 | 138=>193 | 146=>204 | 51=>168 | 80=>108 | n=>n,λ| 1=>5 | 3=>6 | 4=>7 | n=>n⟩
def Tryz.anX:Go.Proofs.Lays.n154 Tryz.prog Tryz.Wd:={
 mixed:=by kernel_rfl
 f138:=Tryz.func180.trans (congrArg some (by kernel_rfl))
 f143:=Tryz.func182.trans (congrArg some (by kernel_rfl))
 f154:=Tryz.func163.trans (congrArg some (by kernel_rfl))
 f165:=Tryz.func181.trans (congrArg some (by kernel_rfl))
 f166:=Tryz.func183.trans (congrArg some (by kernel_rfl))
 f169:=Tryz.func185.trans (congrArg some (by kernel_rfl))
 f195:=Tryz.func198.trans (congrArg some (by kernel_rfl))
 f197:=Tryz.func184.trans (congrArg some (by kernel_rfl))
 f217:=Tryz.func219.trans (congrArg some (by kernel_rfl))
 f218:=Tryz.func199.trans (congrArg some (by kernel_rfl))
 f219:=Tryz.func202.trans (congrArg some (by kernel_rfl))
 f224:=Tryz.func221.trans (congrArg some (by kernel_rfl))
 f225:=Tryz.func220.trans (congrArg some (by kernel_rfl))
 f240:=Tryz.func200.trans (congrArg some (by kernel_rfl))
 f241:=Tryz.func201.trans (congrArg some (by kernel_rfl))
 f260:=Tryz.func203.trans (congrArg some (by kernel_rfl))
 f266:=Tryz.func230.trans (congrArg some (by kernel_rfl))
 f267:=Tryz.func222.trans (congrArg some (by kernel_rfl))
 f276:=Tryz.func217.trans (congrArg some (by kernel_rfl))
 f277:=Tryz.func218.trans (congrArg some (by kernel_rfl))
 f314:=Tryz.func231.trans (congrArg some (by kernel_rfl))
 t0:=Tryz.underlying0
 a0:=Tryz.isAgg0
 z0:=Tryz.sizeOf0
 v0:=Tryz.zeroValue0
 t3:=Tryz.underlying3
 a3:=Tryz.isAgg3
 z3:=Tryz.sizeOf3
 v3:=Tryz.zeroValue3
 t4:=Tryz.underlying4
 a4:=Tryz.isAgg4
 z4:=Tryz.sizeOf4
 v4:=Tryz.zeroValue4
 t5:=Tryz.underlying5
 a5:=Tryz.isAgg5
 z5:=Tryz.sizeOf5
 v5:=Tryz.zeroValue5
 t9:=Tryz.underlying9
 a9:=Tryz.isAgg9
 z9:=Tryz.sizeOf9
 v9:=Tryz.zeroValue9
 t20:=Tryz.underlying20
 a20:=Tryz.isAgg20
 z20:=Tryz.sizeOf20
 v20:=Tryz.zeroValue20
 t21:=Tryz.underlying21
 a21:=Tryz.isAgg21
 z21:=Tryz.sizeOf21
 v21:=Tryz.zeroValue21
 t37:=Tryz.underlying52
 a37:=Tryz.isAgg52
 z37:=Tryz.sizeOf52
 v37:=Tryz.zeroValue52
 t46:=Tryz.underlying170
 a46:=Tryz.isAgg170
 z46:=Tryz.sizeOf170
 v46:=Tryz.zeroValue170
 t51:=Tryz.underlying168
 a51:=Tryz.isAgg168
 z51:=Tryz.sizeOf168
 v51:=Tryz.zeroValue168
 t70:=Tryz.underlying160
 a70:=Tryz.isAgg160
 z70:=Tryz.sizeOf160
 v70:=Tryz.zeroValue160
 t72:=Tryz.underlying162
 a72:=Tryz.isAgg162
 z72:=Tryz.sizeOf162
 v72:=Tryz.zeroValue162
 t75:=Tryz.underlying153
 a75:=Tryz.isAgg153
 z75:=Tryz.sizeOf153
 v75:=Tryz.zeroValue153
 t76:=Tryz.underlying154
 a76:=Tryz.isAgg154
 z76:=Tryz.sizeOf154
 v76:=Tryz.zeroValue154
 t105:=Tryz.underlying164
 a105:=Tryz.isAgg164
 z105:=Tryz.sizeOf164
 v105:=Tryz.zeroValue164
 t119:=Tryz.underlying191
 a119:=Tryz.isAgg191
 z119:=Tryz.sizeOf191
 t127:=Tryz.underlying180
 a127:=Tryz.isAgg180
 z127:=Tryz.sizeOf180
 v127:=Tryz.zeroValue180
 t138:=Tryz.underlying193
 a138:=Tryz.isAgg193
 z138:=Tryz.sizeOf193
 v138:=Tryz.zeroValue193
 t139:=Tryz.underlying194
 a139:=Tryz.isAgg194
 z139:=Tryz.sizeOf194
 v139:=Tryz.zeroValue194
 t146:=Tryz.underlying204
 a146:=Tryz.isAgg204
 z146:=Tryz.sizeOf204
 v146:=Tryz.zeroValue204
 t164:=Tryz.underlying188
 a164:=Tryz.isAgg188
 z164:=Tryz.sizeOf188
 v164:=Tryz.zeroValue188
 g1:=by kernel_rfl
 g3:=by kernel_rfl
 g4:=by kernel_rfl }
def Tryz.T9:Builder.Extra Tryz.prog Tryz.Wd:={
 sizeBuilder:=by kernel_rfl
 liesBuilder:=by kernel_rfl
 t5:=Tryz.underlying5
 a5:=Tryz.isAgg5
 z5:=Tryz.sizeOf5
 v5:=Tryz.zeroValue5
 infoByte:=by kernel_rfl
 cellsByte:=by kernel_rfl
 sizeByte:=by kernel_rfl
 neB5:=by decide }
open Go.RowKit Go.Lib in
def Tryz.strings_Replace(s old new:ByteArray)(n:Int)(m:Int)(w:World)(hs:s.size < 4294967281)(hm:w.cell? ⟨5,0,none⟩=some (.int .i64 m))(h1:1<=old.size)(hlen:s.size+Lib.countB s old*new.size<=140737488355328) :
   Calls Tryz.prog 163 #[.string s,.string old,.string new,.int .i64 n] w λe w' =>
     e=.returned (.string ⟨(Lib.replace s.data.toList old.data.toList new.data.toList n).toArray⟩)/\Below w.heap.size w w':=Any.strings_Replace Tryz.anX Tryz.T9 s old new n m w hs hm h1 hlen
end Go.Proofs
namespace Go.Proofs.YtpbkhogolfegfaaGreatDoor
open AI Go LexS
def Gz(s:List UInt8):AV:=.sc (.string ⟨s.toArray⟩)
namespace Hd
def amD:List AV:=(List.range 128).map λi=>.sc (.int .u8 (P5 i:Nat))
def aqY:List AV:=Gq.map Gz
def int(n:Int):AV:=.sc (.int .i64 n)
def arO(n:Int):AV:=.sc (.int .u64 n)
def G(mx:Int):A8:=λg =>
 match Nat.beq g 2 with
 | true=>some [Gz [111,114],Gz [],Gz [],Gz [],Gz [],Gz [],Gz [97,110,100],Gz [],Gz [],Gz [],Gz [],Gz [],Gz [],Gz [],Gz [],Gz [],Gz [],Gz [],Gz [61,61],Gz [33,61],Gz [60],Gz [60,61],Gz [62],Gz [62,61],Gz [43],Gz [45],Gz [],Gz [],Gz [],Gz [],Gz [42],Gz [47],Gz [97,116],Gz [],Gz [],Gz []]
 | false=>match Nat.beq g 1 with
   | true=>some [Gz [],Gz [101,97,114,110],Gz [100,101,100,117,99,116],Gz [102,108,111,111,114],Gz [105,110,102,111]]
   | false=>match Nat.beq g 12 with
     | true=>some [int 0,int 31,int 59,int 90,int 120,int 151,int 181,int 212,int 243,int 273,int 304,int 334,int 365]
     | false=>match Nat.beq g 3 with
       | true=>some amD
       | false=>match Nat.beq g 0 with
         | true=>some aqY
         | false=>match Nat.beq g 5 with
           | true=>some [int mx]
           | false=>match Nat.beq g 4 with
             | true=>some (Lib.pow10Tab.map arO)
             | false=>none
variable {mx:Int}
def mixed:Tryz.prog.follows .mixedOrders=true:=by kernel_rfl
def YB:∀l:List (List UInt8),BC (l.map Gz)=true
 | []=>rfl
 | s::l=>by
   show(true&&BC (l.map Gz))=true;rw[YB l];rfl
def jZ:∀l:List Nat,BC (l.map λi=>(.sc (.int .u8 (P5 i:Nat)):AV))=true
 | []=>rfl
 | s::l=>by
   show(true&&BC (l.map λi=>(.sc (.int .u8 (P5 i:Nat)):AV)))=true;rw[jZ l];rfl
def aG:∀l:List Int,BC (l.map arO)=true
 | []=>rfl
 | s::l=>by
   show(true&&BC (l.map arO))=true;rw[aG l];rfl
def Ab(g:Nat)(cs:List AV)(h:G mx g=some cs):BC cs=true:=by
 unfold G at h;split at h;cases h;rfl;split at h;cases h;rfl;split at h;cases h;rfl;split at h;cases h;exact jZ _;split at h;cases h;exact YB _;split at h;cases h;rfl;split at h;cases h;exact aG _;cases h
end Hd
end Go.Proofs.YtpbkhogolfegfaaGreatDoor
namespace Go.Proofs.YtpbkhogolfegfaaGreatDoor
open AI Go
namespace Mo
abbrev P:Program:=Tryz.prog
abbrev G(mx:Int):A8:=Hd.G mx
variable {G0:A8}
def W6{i n:Nat}(h:i < n):E3 ((i:Nat):Int) ((n:Nat):Int)=true:=by rw[Qb];simp;exact h
def dJ{i n:Nat}(h:n<=i):E3 ((i:Nat):Int) ((n:Nat):Int)=false:=by rw[Qb];simp;omega
def FG{a b:Int}(h:Dr a b=true):a=b:=by rw[Nn] at h;simpa using h
def ZW{a b:Int}(h:Dr a b=false):a≠b:=by rw[Nn] at h;simpa using h
def afC{a b:Int}(h:S7 a b=false):b < a:=by rw[Vy] at h;have:=of_decide_eq_false h;omega
def Yp{a b:Int}(h:E3 a b=true):a < b:=by rw[Qb] at h;exact of_decide_eq_true h
def KA{a b:Int}(h:E3 a b=false):b<=a:=by rw[Qb] at h;have:=of_decide_eq_false h;omega
def Ai{β:Type}{b:Bool}{t f:Option β}{r:β}{X:Prop}(h1:b=true->t=some r->X)(h2:b=false->f=some r->X):cond b t f=some r->X:=λh=>(aJJ h).elim (λx=>h1 x.1 x.2) λx=>h2 x.1 x.2
def Ay{β κ:Type}{m:Option κ}{k:κ->Option β}{r:β}{X:Prop}(h1:∀y,m=some y->k y=some r->X):m.bind k=some r->X:=λh=>(Zl h).elim λy x=>h1 y x.1 x.2
def jI{β:Type}{n:Nat}{x:Option β}{r:β}{X:Prop}(h1:n<=9223372036854775807->x=some r->X):Lk n x=some r->X:=λh=>h1 (aoA h).1 (aoA h).2
def KY{β:Type}{n:Nat}{x:Option β}{r:β}{X:Prop}(h1:n<=100000000->x=some r->X):Lz n x=some r->X:=λh=>h1 (afM h).1 (afM h).2
def dM{β:Type}{r:β}{X:Prop}:(none:Option β)=some r->X:=λh=>nomatch h
def No{a b:Int}(h:a=b):Dr a b=true:=by rw[Nn];simpa using h
def Pk{a b:Int}(h:a≠b):Dr a b=false:=by rw[Nn];simpa using h
def auG{a b:Int}(h:a<=b):S7 a b=true:=by rw[Vy];exact decide_eq_true h
def tC{a b:Int}(h:b < a):S7 a b=false:=by rw[Vy];exact decide_eq_false (by omega)
def Ny{a b:Int}(h:a < b):E3 a b=true:=by rw[Qb];exact decide_eq_true h
def KZ{a b:Int}(h:b<=a):E3 a b=false:=by rw[Qb];exact decide_eq_false (by omega)
def MB{a b:ByteArray}(h:BS a.data.toList b.data.toList=true):a=b:=by
 rw[Ru] at h;exact ByteArray.ext (Array.ext' (eq_of_beq h))
def hJ{a b:ByteArray}(h:BS a.data.toList b.data.toList=false):a≠b:=λe=>by
 subst e;rw[Ru] at h;simp at h
def fq{n m:Nat}{a:AV}(h:plain a=true):FP n m:=⟨a,a,.plain h⟩
def fbp{n m:Nat}(a:List AV)(h:BC a=true):FB n m:=⟨.cells a,.cells a,.cells (.plain h)⟩
def aEN{n:Nat}{l:List AV}(h:BC l=true):plain (.sl .lost n l)=true:=by simp only[plain,h];rfl
def Wg{n:Nat}{l:List AV}(h:BC l=true):plain (.sl .full n l)=true:=by simp only[plain,h];rfl
def eV{n m r sz k:Nat}{l:List AV}(h:decide (r < m)=true)(t:FC n m l=true):under n m (.sl (.row r sz) k l)=true:=by simp only[under,h,t];rfl
def inC(x:Int):List AV:=[.sc (.int .i64 x)]
def mU(x:Int):List AV:=[.sc (.int .u8 x)]
def O9(x:ByteArray):List AV:=[.sc (.string x)]
def ayN:N2 inC (rows inC) 1:=⟨λ_=>rfl,λ_=>rfl,λ_=>rfl⟩
def auF:N2 mU (rows mU) 1:=⟨λ_=>rfl,λ_=>rfl,λ_=>rfl⟩
def Nx:N2 O9 (rows O9) 1:=⟨λ_=>rfl,λ_=>rfl,λ_=>rfl⟩
structure Pc where
 fr:Int
 AU:Int
 Mg:Int
def Iq(x:Pc):List AV:=[.sc (.int .i64 x.fr),.sc (.int .i64 x.AU),.sc (.int .i64 x.Mg)]
def KW:N2 Iq (rows Iq) 3:=⟨λ_=>rfl,λ_=>rfl,λx=>(Bz rfl (Bz rfl (Bz rfl rfl)))⟩
structure Pt where
 fr:Int
 AU:Int
 num:Int
 den:Int
def Xd(x:Pt):List AV:=[.sc (.int .i64 x.fr),.sc (.int .i64 x.AU),.sc (.int .i64 x.num),.sc (.int .i64 x.den)]
def Pu:N2 Xd (rows Xd) 4:=⟨λ_=>rfl,λ_=>rfl,λx=>(Bz rfl (Bz rfl (Bz rfl (Bz rfl rfl))))⟩
structure Fn where
 den:Int
 ps:(List Pc)
def rY(x:Fn):List AV:=[.sc (.int .i64 x.den),.sl .lost x.ps.length (rows Iq x.ps)]
def jF:N2 rY (rows rY) 2:=⟨λ_=>rfl,λ_=>rfl,λx=>(Bz rfl (Bz (KW.Kx x.ps) rfl))⟩
structure Nd where
 kind:Int
 name:ByteArray
 unit:ByteArray
 n:Int
 fr:Int
 to:Int
 known:Int
 CL:Fn
 kids:(List Nd)
 AU:Int
mutual
def ndK:Nd->List AV
 | ⟨kind,name,unit,n,fr,to,known,CL,kids,AU⟩=>[.sc (.int .i64 kind),.sc (.string name),.sc (.string unit),.sc (.int .i64 n),.sc (.int .i64 fr),.sc (.int .i64 to),.sc (.int .i64 known),.sc (.int .i64 CL.den),.sl .lost CL.ps.length (rows Iq CL.ps),.sl .lost kids.length (Bf kids),.sc (.int .i64 AU)]
def Bf:List Nd->List AV
 | []=>[]
 | k::ks=>ndK k++Bf ks
end
def CS(x:Nd):List AV:=[.sc (.int .i64 x.kind),.sc (.string x.name),.sc (.string x.unit),.sc (.int .i64 x.n),.sc (.int .i64 x.fr),.sc (.int .i64 x.to),.sc (.int .i64 x.known),.sc (.int .i64 x.CL.den),.sl .lost x.CL.ps.length (rows Iq x.CL.ps),.sl .lost x.kids.length (Bf x.kids),.sc (.int .i64 x.AU)]
def afX(x:Nd):ndK x=CS x:=by cases x;rfl
def LL(l:List Nd):Bf l=rows CS l:=by
 induction l with
 | nil=>rfl
 | cons k ks ih=>rw[F9,Bf,ih,afX]
mutual
def afY:∀x:Nd,BC (ndK x)=true
 | ⟨kind,name,unit,n,fr,to,known,CL,kids,AU⟩=>by rw[ndK];exact(Bz rfl (Bz rfl (Bz rfl (Bz rfl (Bz rfl (Bz rfl (Bz rfl (Bz rfl (Bz (KW.Kx CL.ps) (Bz (aEN (tP kids)) (Bz rfl rfl)))))))))))
def tP:∀l:List Nd,BC (Bf l)=true
 | []=>rfl
 | k::ks=>by rw[Bf];exact auM (afY k) (tP ks)
end
def Az:N2 CS Bf 11:=⟨LL,λ_=>rfl,λx=>by rw[<- afX];exact afY x⟩
structure Ex where
 op:Int
 n:Int
 unit:ByteArray
 CL:Fn
 kids:(List Ex)
mutual
def exK:Ex->List AV
 | ⟨op,n,unit,CL,kids⟩=>[.sc (.int .i64 op),.sc (.int .i64 n),.sc (.string unit),.sc (.int .i64 CL.den),.sl .lost CL.ps.length (rows Iq CL.ps),.sl .lost kids.length (amP kids)]
def amP:List Ex->List AV
 | []=>[]
 | k::ks=>exK k++amP ks
end
mutual
def awJ:∀x:Ex,BC (exK x)=true
 | ⟨op,n,unit,CL,kids⟩=>by rw[exK];exact(Bz rfl (Bz rfl (Bz rfl (Bz rfl (Bz (KW.Kx CL.ps) (Bz (aEN (rW kids)) rfl))))))
def rW:∀l:List Ex,BC (amP l)=true
 | []=>rfl
 | k::ks=>by rw[amP];exact auM (awJ k) (rW ks)
end
structure Ar where
 number:Int
 line:Int
 aOP:Int
 fr:Int
 to:Int
 known:Int
 wh:(List Ex)
 un:(List Int)
 am:Ex
structure Dc where
 name:ByteArray
 unit:ByteArray
 aOQ:Int
structure Co where
 facts:(List Dc)
 lines:(List Dc)
 aOE:(List Ar)
structure Tk where
 kind:Int
 text:ByteArray
 AU:Int
def II(x:Tk):List AV:=[.sc (.int .i64 x.kind),.sc (.string x.text),.sc (.int .i64 x.AU)]
def D3:N2 II (rows II) 3:=⟨λ_=>rfl,λ_=>rfl,λx=>(Bz rfl (Bz rfl (Bz rfl rfl)))⟩
structure Dg where
 err:Int
 AU:Int
def Ph(x:Dg):List AV:=[.sc (.int .i64 x.err),.sc (.int .i64 x.AU)]
def Cn:N2 Ph (rows Ph) 2:=⟨λ_=>rfl,λ_=>rfl,λx=>(Bz rfl (Bz rfl rfl))⟩
structure Pr where
 Br:(List Tk)
 JM:Int
 DC:Int
def QQ(x:Pr):List AV:=[.sl .lost x.Br.length (rows II x.Br),.sc (.int .i64 x.JM),.sc (.int .i64 x.DC)]
def CK:N2 QQ (rows QQ) 3:=⟨λ_=>rfl,λ_=>rfl,λx=>(Bz (D3.Kx x.Br) (Bz rfl (Bz rfl rfl)))⟩
structure Ps where
 l:(List Tk)
 at_:Int
 end_:Int
 err:Int
 aNZ:Int
structure Ck where
 nodes:Int
def Jk(x:Ck):List AV:=[.sc (.int .i64 x.nodes)]
def QO:N2 Jk (rows Jk) 1:=⟨λ_=>rfl,λ_=>rfl,λx=>(Bz rfl rfl)⟩
structure Cq where
 src:Nd
 aNX:(List Dg)
structure Ft where
 aBX:Co
 lines:(Mm Int Int)
 nodes:Int
structure Sc where
 facts:(Mm ByteArray ByteArray)
 lines:(Mm ByteArray ByteArray)
 aaX:(Mm Int ByteArray)
structure Tr where
 aBX:Co
 facts:(Mm ByteArray Int)
 lines:(Mm ByteArray Int)
 aaX:(Mm Int Int)
def u24:P.underlying 24=some (.slice 64):=by kernel_rfl
def s64:(P.info? 64).map (·.size)=some 3:=by kernel_rfl
def i64:(P.info? 64).map (λi=>(i.size,i.bytes,i.zero.map (·.cells.size)))=some (3,24,some 3):=by kernel_rfl
def Wy(own:AI.Own){l:List Pc}{i:Nat}{x:Pc}(h:l[i]?=some x):CO P 24 (.sl own l.length (rows Iq l)) (.sc (.int .i64 ((i:Nat):Int)))=some (.el (Iq x++rows Iq (l.drop (i+1)))):=KW.ix u24 s64 own h
def aDU(own:AI.Own){l:List Pc}{z:Int}{x:Pc}(h:IA l z=some x):CO P 24 (.sl own l.length (rows Iq l)) (.sc (.int .i64 z))=some (.el (Iq x++rows Iq (l.drop (z.toNat+1)))):=KW.ixz u24 s64 own h
def aCL(own:AI.Own)(l m:List Pc){o:AI.Own}{n:Nat}{ns:List AV}(hn:Wn ns (rows Iq m))(iT:n=m.length)(ho:ns.all one=true)(hm:m.length≠0)(hlen:l.length+m.length<=100000000):Cd.ok P G0 (.Zg 24 24 own l.length (rows Iq l) (.sl o n ns) 3 (l++m).length (rows Iq (l++m))):=KW.Zg u24 u24 i64 (by decide) (by decide) own l m hn iT ho hm hlen
def aJZ(own:AI.Own)(l m:List Pc){o:AI.Own}(s:AS)(hm:m.length=0)(hlen:l.length+m.length<=100000000):Cd.ok P G0 (.T7 s 24 24 (.sl own l.length (rows Iq l)) (.sl o m.length (rows Iq m)) (.sl own l.length (rows Iq l)) s):=KW.ga u24 u24 i64 (by decide) (by decide) own l m s hm hlen
def u27:P.underlying 27=some (.slice 29):=by kernel_rfl
def s29:(P.info? 29).map (·.size)=some 11:=by kernel_rfl
def i29:(P.info? 29).map (λi=>(i.size,i.bytes,i.zero.map (·.cells.size)))=some (11,136,some 11):=by kernel_rfl
def Kd(own:AI.Own){l:List Nd}{i:Nat}{x:Nd}(h:l[i]?=some x):CO P 27 (.sl own l.length (Bf l)) (.sc (.int .i64 ((i:Nat):Int)))=some (.el (CS x++Bf (l.drop (i+1)))):=Az.ix u27 s29 own h
def S2(own:AI.Own)(l m:List Nd){o:AI.Own}{n:Nat}{ns:List AV}(hn:Wn ns (Bf m))(iT:n=m.length)(ho:ns.all one=true)(hm:m.length≠0)(hlen:l.length+m.length<=100000000):Cd.ok P G0 (.Zg 27 27 own l.length (Bf l) (.sl o n ns) 11 (l++m).length (Bf (l++m))):=Az.Zg u27 u27 i29 (by decide) (by decide) own l m hn iT ho hm hlen
def adH(own:AI.Own)(l m:List Nd){o:AI.Own}{n:Nat}{ns cs:List AV}(e:cs=Bf l)(hn:Wn ns (Bf m))(iT:n=m.length)(ho:ns.all one=true)(hm:m.length≠0)(hlen:l.length+m.length<=100000000):Cd.ok P G0 (.Zg 27 27 own l.length cs (.sl o n ns) 11 (l++m).length (Bf (l++m))):=e▸S2 own l m hn iT ho hm hlen
def aCK(own:AI.Own)(l m:List Nd){o:AI.Own}(hm:¬m.length=0)(hlen:l.length+m.length<=100000000):Cd.ok P G0 (.Zg 27 27 own l.length (Bf l) (.sl o m.length (Bf m)) 11 (l++m).length (Bf (l++m))):=Az.Zg u27 u27 i29 (by decide) (by decide) own l m (Wn.refl _) rfl (Az.mZ (λ_=>rfl) m) hm hlen
def aBI(m:List Nd){o:AI.Own}(hm:¬m.length=0)(hlen:m.length<=100000000):Cd.ok P G0 (.apB 27 27 (.sl .full 0 []) (.sl o m.length (Bf m)) m.length (.cells (Bf m))):=Az.apm u27 u27 i29 (by decide) (by decide) (λ_=>rfl) m hm hlen
def aKA(own:AI.Own)(l m:List Nd){o:AI.Own}(s:AS)(hm:m.length=0)(hlen:l.length+m.length<=100000000):Cd.ok P G0 (.T7 s 27 27 (.sl own l.length (Bf l)) (.sl o m.length (Bf m)) (.sl own l.length (Bf l)) s):=Az.ga u27 u27 i29 (by decide) (by decide) own l m s hm hlen
def u30:P.underlying 30=some (.slice 45):=by kernel_rfl
def s45:(P.info? 45).map (·.size)=some 2:=by kernel_rfl
def i45:(P.info? 45).map (λi=>(i.size,i.bytes,i.zero.map (·.cells.size)))=some (2,16,some 2):=by kernel_rfl
def jC(own:AI.Own){l:List Dg}{i:Nat}{x:Dg}(h:l[i]?=some x):CO P 30 (.sl own l.length (rows Ph l)) (.sc (.int .i64 ((i:Nat):Int)))=some (.el (Ph x++rows Ph (l.drop (i+1)))):=Cn.ix u30 s45 own h
def aCM(own:AI.Own)(l m:List Dg){o:AI.Own}{n:Nat}{ns:List AV}(hn:Wn ns (rows Ph m))(iT:n=m.length)(ho:ns.all one=true)(hm:m.length≠0)(hlen:l.length+m.length<=100000000):Cd.ok P G0 (.Zg 30 30 own l.length (rows Ph l) (.sl o n ns) 2 (l++m).length (rows Ph (l++m))):=Cn.Zg u30 u30 i45 (by decide) (by decide) own l m hn iT ho hm hlen
def u38:P.underlying 38=some (.slice 43):=by kernel_rfl
def s43:(P.info? 43).map (·.size)=some 3:=by kernel_rfl
def aeY(own:AI.Own){l:List Tk}{z:Int}{x:Tk}(h:IA l z=some x):CO P 38 (.sl own l.length (rows II l)) (.sc (.int .i64 z))=some (.el (II x++rows II (l.drop (z.toNat+1)))):=D3.ixz u38 s43 own h
def u52:P.underlying 52=some (.slice 5):=by kernel_rfl
def s5:(P.info? 5).map (·.size)=some 1:=by kernel_rfl
def aDT(own:AI.Own){l:List Int}{i:Nat}{x:Int}(h:l[i]?=some x):CO P 52 (.sl own l.length (rows mU l)) (.sc (.int .i64 ((i:Nat):Int)))=some (.el (mU x++rows mU (l.drop (i+1)))):=auF.ix u52 s5 own h
def u57:P.underlying 57=some (.slice 9):=by kernel_rfl
def s9:(P.info? 9).map (·.size)=some 1:=by kernel_rfl
def i9:(P.info? 9).map (λi=>(i.size,i.bytes,i.zero.map (·.cells.size)))=some (1,16,some 1):=by kernel_rfl
def anS(own:AI.Own){l:List ByteArray}{i:Nat}{x:ByteArray}(h:l[i]?=some x):CO P 57 (.sl own l.length (rows O9 l)) (.sc (.int .i64 ((i:Nat):Int)))=some (.el (O9 x++rows O9 (l.drop (i+1)))):=Nx.ix u57 s9 own h
def S6(own:AI.Own){l:List ByteArray}{z:Int}{x:ByteArray}(h:IA l z=some x):CO P 57 (.sl own l.length (rows O9 l)) (.sc (.int .i64 z))=some (.el (O9 x++rows O9 (l.drop (z.toNat+1)))):=Nx.ixz u57 s9 own h
def sH(own:AI.Own)(l m:List ByteArray){o:AI.Own}{n:Nat}{ns:List AV}(hn:Wn ns (rows O9 m))(iT:n=m.length)(ho:ns.all one=true)(hm:m.length≠0)(hlen:l.length+m.length<=100000000):Cd.ok P G0 (.Zg 57 57 own l.length (rows O9 l) (.sl o n ns) 1 (l++m).length (rows O9 (l++m))):=Nx.Zg u57 u57 i9 (by decide) (by decide) own l m hn iT ho hm hlen
def arN:P.underlying 174=some (.slice 176):=by kernel_rfl
def aEY:(P.info? 176).map (·.size)=some 4:=by kernel_rfl
def i176:(P.info? 176).map (λi=>(i.size,i.bytes,i.zero.map (·.cells.size)))=some (4,32,some 4):=by kernel_rfl
def aDS(own:AI.Own){l:List Pt}{i:Nat}{x:Pt}(h:l[i]?=some x):CO P 174 (.sl own l.length (rows Xd l)) (.sc (.int .i64 ((i:Nat):Int)))=some (.el (Xd x++rows Xd (l.drop (i+1)))):=Pu.ix arN aEY own h
def ayK(own:AI.Own){l:List Pt}{z:Int}{x:Pt}(h:IA l z=some x):CO P 174 (.sl own l.length (rows Xd l)) (.sc (.int .i64 z))=some (.el (Xd x++rows Xd (l.drop (z.toNat+1)))):=Pu.ixz arN aEY own h
def awS(own:AI.Own)(l m:List Pt){o:AI.Own}{n:Nat}{ns:List AV}(hn:Wn ns (rows Xd m))(iT:n=m.length)(ho:ns.all one=true)(hm:m.length≠0)(hlen:l.length+m.length<=100000000):Cd.ok P G0 (.Zg 174 174 own l.length (rows Xd l) (.sl o n ns) 4 (l++m).length (rows Xd (l++m))):=Pu.Zg arN arN i176 (by decide) (by decide) own l m hn iT ho hm hlen
def s3:(P.info? 3).map (·.size)=some 1:=by kernel_rfl
def i3:(P.info? 3).map (λi=>(i.size,i.bytes,i.zero.map (·.cells.size)))=some (1,8,some 1):=by kernel_rfl
def atZ{id n i:Nat}(h:i < n):CO P 27 (.msl id 0 n) (.sc (.int .i64 ((i:Nat):Int)))=some (.ptr id (0+i*11)):=Az.ixm u27 s29 h
def w64(x:Int):Int:=IntKind.i64.wrap x
def w8(x:Int):Int:=IntKind.u8.wrap x
def aaF(x y:Int):Int:=IntKind.i64.wrap (x.tdiv y)
def U2(x y:Int):Int:=x.tmod y
def SB(x y:Int):Option Int:=if y=0 then none else some (aaF x y)
def XR(x y:Int):Option Int:=if y=0 then none else some (U2 x y)
def Qt{α:Type}(s:List α)(l h:Int):Option (List α):=if 0<=l/\l<=h/\h<=((s.length:Nat):Int) then some ((s.drop l.toNat).take (h.toNat - l.toNat)) else none
def bO(z:Int)(h:0<=z):QV (.sc (.int .i64 z))=some z.toNat:=by unfold QV;simp[h]
def Qk{a b c:Int}(h:SB a b=some c)(x y:Operand):Lf P .quo 3 x y (.sc (.int .i64 a)) (.sc (.int .i64 b))=some (.sc (.int .i64 c)):=by
 unfold SB at h;split at h;cases h;rename_i hb;cases h;simp[Lf,QH,UO,eqGuard,binOp,Op.intDiv,hb,AI.pv,ZD,scalar,aaF,Bind.bind,Sem.bind,Pure.pure]
def eB{a b c:Int}(h:XR a b=some c)(x y:Operand):Lf P .rem 3 x y (.sc (.int .i64 a)) (.sc (.int .i64 b))=some (.sc (.int .i64 c)):=by
 unfold XR at h;split at h;cases h;rename_i hb;cases h;simp[Lf,QH,UO,eqGuard,binOp,Op.intDiv,hb,AI.pv,ZD,scalar,U2,Bind.bind,Sem.bind,Pure.pure]
def us9:P.underlying 9=some .string:=by kernel_rfl
def gJ{x y:ByteArray}(h:x.data.toList.length+y.data.toList.length<=9223372036854775807)(ox oy:Operand):Lf P .add 9 ox oy (.sc (.string x)) (.sc (.string y))=some (.sc (.string (x++y))):=awB h ox oy
def Yg{s:ByteArray}{i:Nat}{c:UInt8}(h:s.data.toList[i]?=some c):Lq P 9 (.sc (.string s)) (.sc (.int .i64 ((i:Nat):Int)))=some (.sc (.int .u8 ((c.toNat:Nat):Int))):=by
 unfold Lq;rw[us9,bO _ (by omega)];simp only[Int.toNat_natCast,h]
def aqX(l h:Nat){s:List Nd}(h1:l<=h)(h2:h<=s.length)(lo hi:Option AV)(e1:Ml 0 lo=some l)(e2:Ml s.length hi=some h):KP P 27 (.sl .lost s.length (Bf s)) lo hi none=some (.sl .lost ((s.drop l).take (h - l)).length (Bf ((s.drop l).take (h - l)))):=Az.sub u27 s29 l h h1 h2 lo hi e1 e2
def vA{s v:List Nd}{l:Int}(e:Qt s l ((s.length:Nat):Int)=some v):KP P 27 (.sl .lost s.length (Bf s)) (some (.sc (.int .i64 l))) (none) none=some (.sl .lost v.length (Bf v)):=by
 unfold Qt at e;split at e;rename_i hc;cases e;exact aqX _ _ (by omega) (by omega) _ _ (bO l hc.1) rfl;cases e
def uY(l h:Nat){s:List ByteArray}(h1:l<=h)(h2:h<=s.length)(lo hi:Option AV)(e1:Ml 0 lo=some l)(e2:Ml s.length hi=some h):KP P 57 (.sl .lost s.length (rows O9 s)) lo hi none=some (.sl .lost ((s.drop l).take (h - l)).length (rows O9 ((s.drop l).take (h - l)))):=Nx.sub u57 s9 l h h1 h2 lo hi e1 e2
def vB{s v:List ByteArray}{l:Int}(e:Qt s l ((s.length:Nat):Int)=some v):KP P 57 (.sl .lost s.length (rows O9 s)) (some (.sc (.int .i64 l))) (none) none=some (.sl .lost v.length (rows O9 v)):=by
 unfold Qt at e;split at e;rename_i hc;cases e;exact uY _ _ (by omega) (by omega) _ _ (bO l hc.1) rfl;cases e
def uZ{s v:List ByteArray}{h:Int}(e:Qt s 0 h=some v):KP P 57 (.sl .lost s.length (rows O9 s)) (none) (some (.sc (.int .i64 h))) none=some (.sl .lost v.length (rows O9 v)):=by
 unfold Qt at e;split at e;rename_i hc;cases e;exact uY _ _ (by omega) (by omega) _ _ rfl (bO h (by omega));cases e
def O1(x y:Pc):Bool:=x.fr == y.fr&&(x.AU == y.AU&&(x.Mg == y.Mg))
def qK(x y:Pc):Zj [.int .i64 x.fr,.int .i64 x.AU,.int .i64 x.Mg] [.int .i64 y.fr,.int .i64 y.AU,.int .i64 y.Mg]=some (O1 x y):=by
 simp only[Zj,fEq,O1,if_true,Option.bind_some];cases (x.fr == y.fr)<;>cases (x.AU == y.AU)<;>cases (x.Mg == y.Mg)<;>rfl
def awN:Flat P 64 [1,1,1]:=⟨by kernel_rfl,by kernel_rfl,by kernel_rfl,by kernel_rfl,by kernel_rfl,by kernel_rfl⟩
def aB{x y:Pc}{b:Bool}(h:O1 x y=b)(ox oy:Operand):Lf P .neq 64 ox oy (.agg (Iq x)) (.agg (Iq y))=some (.sc (.bool (!b))):=by
 subst h;exact(awN.bin (us:=[.int .i64 x.fr,.int .i64 x.AU,.int .i64 x.Mg]) (vs:=[.int .i64 y.fr,.int .i64 y.AU,.int .i64 y.Mg]) ⟨.inl ⟨_,rfl,rfl⟩,⟨.inl ⟨_,rfl,rfl⟩,⟨.inl ⟨_,rfl,rfl⟩,trivial⟩⟩⟩ ⟨.inl ⟨_,rfl,rfl⟩,⟨.inl ⟨_,rfl,rfl⟩,⟨.inl ⟨_,rfl,rfl⟩,trivial⟩⟩⟩ (qK x y) ox oy).2
def eK(x y:Dg):Bool:=x.err == y.err&&(x.AU == y.AU)
def qI(x y:Dg):Zj [.int .i64 x.err,.int .i64 x.AU] [.int .i64 y.err,.int .i64 y.AU]=some (eK x y):=by
 simp only[Zj,fEq,eK,if_true,Option.bind_some];cases (x.err == y.err)<;>cases (x.AU == y.AU)<;>rfl
def awM:Flat P 45 [1,1]:=⟨by kernel_rfl,by kernel_rfl,by kernel_rfl,by kernel_rfl,by kernel_rfl,by kernel_rfl⟩
def auI{x y:Dg}{b:Bool}(h:eK x y=b)(ox oy:Operand):Lf P .neq 45 ox oy (.agg (Ph x)) (.agg (Ph y))=some (.sc (.bool (!b))):=by
 subst h;exact(awM.bin (us:=[.int .i64 x.err,.int .i64 x.AU]) (vs:=[.int .i64 y.err,.int .i64 y.AU]) ⟨.inl ⟨_,rfl,rfl⟩,⟨.inl ⟨_,rfl,rfl⟩,trivial⟩⟩ ⟨.inl ⟨_,rfl,rfl⟩,⟨.inl ⟨_,rfl,rfl⟩,trivial⟩⟩ (qI x y) ox oy).2
def Oa(l:List Int):ByteArray:=⟨(l.map λx=>UInt8.ofNat x.toNat).toArray⟩
def uM:∀l:List Int,AI.bytesOf (rows mU l)=some (l.map λx=>UInt8.ofNat x.toNat)
 | []=>rfl
 | x::l=>by
   rw[F9];show(match AI.byteOf (.sc (.int .u8 x)),AI.bytesOf (rows mU l) with | some b,some m=>some (b::m) | _,_=>none)=_
   rw[uM l];rfl
def acA(own:AI.Own)(l:List Int):Re P 52 9 (.sl own l.length (rows mU l))=some (.sc (.string (Oa l))):=by
 have hl:l.length=(rows mU l).length:=by rw[Is (f:=mU) (k:=1) (λ_=>rfl) l];omega
 unfold Re;rw[u52,us9];have h8:P.underlying 5=some (.int .u8):=by kernel_rfl
 simp only[h8];rw[if_pos hl,uM];rfl
def beforeL:List Int:=[0,31,59,90,120,151,181,212,243,273,304,334,365]
def oU{z:Int}{x:Int}(h:IA beforeL z=some x):CO P 203 (.el (rows inC beforeL)) (.sc (.int .i64 z))=some (.el (inC x++rows inC (beforeL.drop (z.toNat+1)))):=ayN.ixa (elem:=3) (len:=13) (by kernel_rfl) (by kernel_rfl) rfl h
def aGF{a b:ByteArray}{q:Bool}(h:some (BS a.data.toList b.data.toList)=some q)(x y:Operand):Lf P .eql 9 x y (.sc (.string a)) (.sc (.string b))=some (.sc (.bool q)):=by
 rw[<- Uf];cases h
 kernel_rfl
def aGG{a b:Int}{q:Bool}(h:some (S7 a b)=some q)(x y:Operand):Lf P .leq 3 x y (.sc (.int .i64 a)) (.sc (.int .i64 b))=some (.sc (.bool q)):=by
 rw[<- Uf];cases h
 kernel_rfl
def HU:ByteArray:=⟨#[32]⟩
def Fw:ByteArray:=⟨#[33,61]⟩
def dY:ByteArray:=⟨#[40]⟩
def pY:ByteArray:=⟨#[41]⟩
def MY:ByteArray:=⟨#[42]⟩
def K6:ByteArray:=⟨#[43]⟩
def dZ:ByteArray:=⟨#[44]⟩
def Jl:ByteArray:=⟨#[45]⟩
def azR:ByteArray:=⟨#[46]⟩
def E9:ByteArray:=⟨#[47]⟩
def kE:ByteArray:=⟨#[58]⟩
def WD:ByteArray:=⟨#[59]⟩
def GP:ByteArray:=⟨#[60]⟩
def D0:ByteArray:=⟨#[60,61]⟩
def EU:ByteArray:=⟨#[61,61]⟩
def Gf:ByteArray:=⟨#[62]⟩
def Dk:ByteArray:=⟨#[62,61]⟩
def aS:ByteArray:=⟨#[97]⟩
def Me:ByteArray:=⟨#[97,32,60,32,98,32,60,32,99]⟩
def EV:ByteArray:=⟨#[97,32,62,32,51,32,97,110,100,32,110,111,116,32,98,32,61,61,32,99]⟩
def P0:ByteArray:=⟨#[97,109,111,117,110,116]⟩
def J2:ByteArray:=⟨#[97,110,100]⟩
def bR:ByteArray:=⟨#[97,114,116]⟩
def Ig:ByteArray:=⟨#[97,114,116,105,99,108,101]⟩
def Vf:ByteArray:=⟨#[97,116]⟩
def bS:ByteArray:=⟨#[98]⟩
def cS:ByteArray:=⟨#[99]⟩
def cE:ByteArray:=⟨#[100,97,121]⟩
def LI:ByteArray:=⟨#[100,101,100,117,99,116]⟩
def SZ:ByteArray:=⟨#[101,97,114,110]⟩
def S0:ByteArray:=⟨#[102,97,99,116]⟩
def Ei:ByteArray:=⟨#[102,97,99,116,32,114,97,116,101,32,58,32,69,85,82,32,108,105,110,101,32,120]⟩
def Tq:ByteArray:=⟨#[102,97,108,115,101]⟩
def OO:ByteArray:=⟨#[102,108,111,111,114]⟩
def acW:ByteArray:=⟨#[102,111,114]⟩
def sB:ByteArray:=⟨#[102,114,111,109]⟩
def FX:ByteArray:=⟨#[103,114,101,97,116,101,115,116]⟩
def EC:ByteArray:=⟨#[104,111,117,114,115,32,97,116,32,114,97,116,101,32,43,32,97,114,116,32,51]⟩
def S5:ByteArray:=⟨#[105,110,102,111]⟩
def Vt:ByteArray:=⟨#[107,110,111,119,110]⟩
def Kt:ByteArray:=⟨#[108,101,97,115,116]⟩
def Ol:ByteArray:=⟨#[108,105,110,101]⟩
def At:ByteArray:=⟨#[108,105,110,101,32,112,97,121,32,58,32,69,85,82,32,101,97,114,110,59,32,97,114,116,105,99,108,101,32,51,32,102,111,114,32,112,97,121,32,114,97,110,107,32,49,32,102,114,111,109,32,50,48,50,52,45,48,49,45,48,49,32,107,110,111,119,110,32,50,48,50,52,45,48,49,45,48,49,32,123,32,97,109,111,117,110,116,32,69,85,82,32,49,46,53,48,59,32,125]⟩
def aoE:ByteArray:=⟨#[109,105,110]⟩
def JA:ByteArray:=⟨#[109,105,110,117,116,101,115]⟩
def Qc:ByteArray:=⟨#[109,111,110,116,104]⟩
def SG:ByteArray:=⟨#[110,111,116]⟩
def ED:ByteArray:=⟨#[110,117,109,98,101,114]⟩
def Sf:ByteArray:=⟨#[111,114]⟩
def uF:ByteArray:=⟨#[114,97,110,107]⟩
def Qu:ByteArray:=⟨#[116,97,98,108,101]⟩
def BF:ByteArray:=⟨#[116,97,98,108,101,40,120,59,32,48,32,58,32,48,46,48,48,32,43,32,49,47,49,48,44,32,53,48,48,46,48,48,32,58,32,53,48,46,48,48,32,43,32,49,47,52,41]⟩
def toS:ByteArray:=⟨#[116,111]⟩
def YY:ByteArray:=⟨#[116,114,117,101]⟩
def G7:ByteArray:=⟨#[116,114,117,116,104]⟩
def Sr:ByteArray:=⟨#[117,110,108,101,115,115]⟩
def Lb:ByteArray:=⟨#[119,101,101,107,100,97,121]⟩
def bH:ByteArray:=⟨#[119,104,101,110]⟩
def U9:ByteArray:=⟨#[121,101,97,114]⟩
def azS:ByteArray:=⟨#[123]⟩
def apG:ByteArray:=⟨#[125]⟩
end Mo
end Go.Proofs.YtpbkhogolfegfaaGreatDoor
namespace Go.Proofs.YtpbkhogolfegfaaGreatDoor
open AI Go
namespace Mo
set_option maxRecDepth 100000
set_option maxHeartbeats 4000000
def azF(x:Pc):Prop:=(-9223372036854775808<=x.fr/\x.fr<=9223372036854775807)/\(-9223372036854775808<=x.AU/\x.AU<=9223372036854775807)/\(-9223372036854775808<=x.Mg/\x.Mg<=9223372036854775807)
def pM(x:Fn):Prop:=x.ps.length<=9223372036854775807/\(∀y∈x.ps,azF y)
mutual
def KJ:Nd->Prop
 | ⟨kind,name,unit,n,fr,to,known,CL,kids,AU⟩=>pM CL/\kids.length<=9223372036854775807/\jU kids
def jU:List Nd->Prop
 | []=>True
 | k::ks=>KJ k/\jU ks
end
def aE{l:List Nd}:jU l↔∀k∈l,KJ k:=by
 induction l with
 | nil=>simp[jU]
 | cons k l ih=>simp[jU,ih]
def Py(x:Nd):KJ x↔pM x.CL/\x.kids.length<=9223372036854775807/\∀y∈x.kids,KJ y:=by
 cases x;rw[KJ,aE]
end Mo
end Go.Proofs.YtpbkhogolfegfaaGreatDoor
