/- Part of a proof: see the last text. -/
import Derived.Test.YtpbkhogolfegfaaGreatDoorPil
import Derived.Shelf.Strings.Builder1
import Derived.Shelf.Strings.Builder2
import Derived.Shelf.Strconv.Atoi
import Derived.Shelf.Strconv.Itoa0
import Derived.Shelf.Strconv.Itoa1
import Derived.Shelf.LaysM
import Derived.Shelf.Strconv.Itoa2
import Derived.Shelf.Strconv.Itoa3
import Derived.Shelf.Strconv.AtoiErrFast
import Derived.Shelf.Strconv.ParseIntEmpty
import Derived.Shelf.Strconv.AtoiFail
import Derived.Shelf.Strconv.Clone
import Derived.Shelf.Strconv.SyntaxError
import Derived.Shelf.LaysC
import Derived.Shelf.Strconv.ToError
import Derived.Shelf.Strconv.Lower
import Derived.Shelf.Strconv.ParseUint10
import Derived.Shelf.Strconv.ParseUint10Empty
import Derived.Shelf.Strconv.ParseUint10Any
import Derived.Shelf.Strconv.ParseInt10
import Derived.Shelf.Strconv.AtoiLong
import Derived.Shelf.Strconv.AtoiInnerAll
import Derived.Shelf.Strconv.RangeError
import Derived.Shelf.Strconv.ToErrorRange
import Derived.Shelf.Strconv.AtoiAll
import Derived.Shelf.Strings.Search1
import Derived.Shelf.Strings.Search2
import Derived.Shelf.Strings.Search3
import Derived.Shelf.Strings.Count
import Derived.Shelf.Strings.Shaped
import Derived.Shelf.Strings.Split
import Derived.Shelf.Strings.Replace
import Derived.Shelf.Unicode.DecodeSlow
import Derived.Test.YtpbkhogolfegfaaGreatDoorProg
import Derived.KernelRfl
set_option linter.unusedVariables false
set_option linter.unusedSimpArgs false
set_option linter.defProp false
noncomputable section
namespace Go.Proofs
open Go.Shelf
def Tryz.jL:Go.Shelf.Ren:=⟨λ| 172=>173 | 244=>193 | 245=>194 | 247=>207 | 279=>208 | 280=>209 | 281=>210 | 282=>211 | 287=>224 | 316=>225 | 171=>64 | 205=>226 | 321=>235 | 322=>236 | 243=>114 | 246=>149 | 283=>166 | 284=>167 | 285=>168 | 286=>169 | 129=>189 | 317=>188 | 318=>190 | 319=>191 | 320=>192 | 337=>205 | 338=>206 | n=>n,λ| 9=>9 | 3=>3 | 75=>153 | 76=>154 | 4=>4 | 5=>5 | 167=>182 | 37=>52 | 0=>0 | 85=>183 | 2=>2 | 168=>185 | 53=>146 | 175=>197 | 46=>170 | 210=>201 | 127=>180 | 145=>210 | 143=>208 | 21=>21 | 171=>145 | 173=>149 | 212=>167 | 51=>168 | 20=>20 | 213=>169 | 232=>195 | 233=>196 | 80=>108 | n=>n,λ| 15=>10 | 16=>11 | 17=>4 | 18=>8 | 19=>9 | n=>n⟩
def Tryz.anB:Go.Proofs.Lays.n172 Tryz.prog Tryz.jL:={
 mixed:=by kernel_rfl
 f129:=Tryz.func189.trans (congrArg some (by kernel_rfl))
 f171:=Tryz.func64.trans (congrArg some (by kernel_rfl))
 f172:=Tryz.func173.trans (congrArg some (by kernel_rfl))
 f205:=Tryz.func226.trans (congrArg some (by kernel_rfl))
 f243:=Tryz.func114.trans (congrArg some (by kernel_rfl))
 f244:=Tryz.func193.trans (congrArg some (by kernel_rfl))
 f245:=Tryz.func194.trans (congrArg some (by kernel_rfl))
 f246:=Tryz.func149.trans (congrArg some (by kernel_rfl))
 f247:=Tryz.func207.trans (congrArg some (by kernel_rfl))
 f279:=Tryz.func208.trans (congrArg some (by kernel_rfl))
 f280:=Tryz.func209.trans (congrArg some (by kernel_rfl))
 f281:=Tryz.func210.trans (congrArg some (by kernel_rfl))
 f282:=Tryz.func211.trans (congrArg some (by kernel_rfl))
 f283:=Tryz.func166.trans (congrArg some (by kernel_rfl))
 f284:=Tryz.func167.trans (congrArg some (by kernel_rfl))
 f285:=Tryz.func168.trans (congrArg some (by kernel_rfl))
 f286:=Tryz.func169.trans (congrArg some (by kernel_rfl))
 f287:=Tryz.func224.trans (congrArg some (by kernel_rfl))
 f316:=Tryz.func225.trans (congrArg some (by kernel_rfl))
 f317:=Tryz.func188.trans (congrArg some (by kernel_rfl))
 f318:=Tryz.func190.trans (congrArg some (by kernel_rfl))
 f319:=Tryz.func191.trans (congrArg some (by kernel_rfl))
 f320:=Tryz.func192.trans (congrArg some (by kernel_rfl))
 f321:=Tryz.func235.trans (congrArg some (by kernel_rfl))
 f322:=Tryz.func236.trans (congrArg some (by kernel_rfl))
 f337:=Tryz.func205.trans (congrArg some (by kernel_rfl))
 f338:=Tryz.func206.trans (congrArg some (by kernel_rfl))
 t0:=Tryz.underlying0
 a0:=Tryz.isAgg0
 z0:=Tryz.sizeOf0
 v0:=Tryz.zeroValue0
 t2:=Tryz.underlying2
 a2:=Tryz.isAgg2
 z2:=Tryz.sizeOf2
 v2:=Tryz.zeroValue2
 t3:=Tryz.underlying3
 a3:=Tryz.isAgg3
 z3:=Tryz.sizeOf3
 v3:=Tryz.zeroValue3
 t4:=Tryz.underlying4
 a4:=Tryz.isAgg4
 z4:=Tryz.sizeOf4
 v4:=Tryz.zeroValue4
 t5:=Tryz.underlying5
 a5:=Tryz.isAgg5
 z5:=Tryz.sizeOf5
 v5:=Tryz.zeroValue5
 t9:=Tryz.underlying9
 a9:=Tryz.isAgg9
 z9:=Tryz.sizeOf9
 v9:=Tryz.zeroValue9
 t20:=Tryz.underlying20
 a20:=Tryz.isAgg20
 z20:=Tryz.sizeOf20
 v20:=Tryz.zeroValue20
 t21:=Tryz.underlying21
 a21:=Tryz.isAgg21
 z21:=Tryz.sizeOf21
 v21:=Tryz.zeroValue21
 t37:=Tryz.underlying52
 a37:=Tryz.isAgg52
 z37:=Tryz.sizeOf52
 v37:=Tryz.zeroValue52
 t46:=Tryz.underlying170
 a46:=Tryz.isAgg170
 z46:=Tryz.sizeOf170
 v46:=Tryz.zeroValue170
 t51:=Tryz.underlying168
 a51:=Tryz.isAgg168
 z51:=Tryz.sizeOf168
 v51:=Tryz.zeroValue168
 t53:=Tryz.underlying146
 a53:=Tryz.isAgg146
 z53:=Tryz.sizeOf146
 v53:=Tryz.zeroValue146
 t75:=Tryz.underlying153
 a75:=Tryz.isAgg153
 z75:=Tryz.sizeOf153
 v75:=Tryz.zeroValue153
 t76:=Tryz.underlying154
 a76:=Tryz.isAgg154
 z76:=Tryz.sizeOf154
 v76:=Tryz.zeroValue154
 t85:=Tryz.underlying183
 a85:=Tryz.isAgg183
 z85:=Tryz.sizeOf183
 v85:=Tryz.zeroValue183
 t127:=Tryz.underlying180
 a127:=Tryz.isAgg180
 z127:=Tryz.sizeOf180
 v127:=Tryz.zeroValue180
 t143:=Tryz.underlying208
 a143:=Tryz.isAgg208
 z143:=Tryz.sizeOf208
 v143:=Tryz.zeroValue208
 t145:=Tryz.underlying210
 a145:=Tryz.isAgg210
 z145:=Tryz.sizeOf210
 v145:=Tryz.zeroValue210
 t167:=Tryz.underlying182
 a167:=Tryz.isAgg182
 z167:=Tryz.sizeOf182
 v167:=Tryz.zeroValue182
 t168:=Tryz.underlying185
 a168:=Tryz.isAgg185
 z168:=Tryz.sizeOf185
 v168:=Tryz.zeroValue185
 t171:=Tryz.underlying145
 a171:=Tryz.isAgg145
 z171:=Tryz.sizeOf145
 v171:=Tryz.zeroValue145
 t173:=Tryz.underlying149
 a173:=Tryz.isAgg149
 z173:=Tryz.sizeOf149
 v173:=Tryz.zeroValue149
 t175:=Tryz.underlying197
 a175:=Tryz.isAgg197
 z175:=Tryz.sizeOf197
 v175:=Tryz.zeroValue197
 t210:=Tryz.underlying201
 a210:=Tryz.isAgg201
 z210:=Tryz.sizeOf201
 v210:=Tryz.zeroValue201
 t212:=Tryz.underlying167
 a212:=Tryz.isAgg167
 z212:=Tryz.sizeOf167
 v212:=Tryz.zeroValue167
 t213:=Tryz.underlying169
 a213:=Tryz.isAgg169
 z213:=Tryz.sizeOf169
 t232:=Tryz.underlying195
 a232:=Tryz.isAgg195
 z232:=Tryz.sizeOf195
 v232:=Tryz.zeroValue195
 t233:=Tryz.underlying196
 a233:=Tryz.isAgg196
 z233:=Tryz.sizeOf196
 v233:=Tryz.zeroValue196
 g15:=by kernel_rfl
 g16:=by kernel_rfl
 g17:=by kernel_rfl
 g18:=by kernel_rfl
 g19:=by kernel_rfl }
open Go.RowKit in
def Tryz.strconv_Atoi(s:ByteArray)(n:Int)(hl:s.size<=18)(h:Lib.atoi s.data.toList=some n)(w:World) :
   Calls Tryz.prog 173 #[.string s] w λe w'=>e=.returned (.tuple #[.int .i64 n,.nilIface])/\∃t,w'=Lib.bytesWorld w 5 t:=Any.strconv_Atoi Tryz.anB s n hl h w
def Tryz.WA:Go.Shelf.Ren:=⟨λ| 154=>163 | 138=>180 | 165=>181 | 143=>182 | 166=>183 | 197=>184 | 169=>185 | 195=>198 | 218=>199 | 240=>200 | 241=>201 | 219=>202 | 260=>203 | 276=>217 | 277=>218 | 217=>219 | 225=>220 | 224=>221 | 267=>222 | 266=>230 | 314=>231 | n=>n,λ| 9=>9 | 3=>3 | 4=>4 | 72=>162 | 0=>0 | 76=>154 | 105=>164 | 21=>21 | 5=>5 | 70=>160 | 20=>20 | 37=>52 | 75=>153 | 127=>180 | 164=>188 | 46=>170 | 119=>191 | 139=>194 | 138=>193 | 146=>204 | 51=>168 | 80=>108 | n=>n,λ| 1=>5 | 3=>6 | 4=>7 | n=>n⟩
def Tryz.anA:Go.Proofs.Lays.n154 Tryz.prog Tryz.WA:={
 mixed:=by kernel_rfl
 f138:=Tryz.func180.trans (congrArg some (by kernel_rfl))
 f143:=Tryz.func182.trans (congrArg some (by kernel_rfl))
 f154:=Tryz.func163.trans (congrArg some (by kernel_rfl))
 f165:=Tryz.func181.trans (congrArg some (by kernel_rfl))
 f166:=Tryz.func183.trans (congrArg some (by kernel_rfl))
 f169:=Tryz.func185.trans (congrArg some (by kernel_rfl))
 f195:=Tryz.func198.trans (congrArg some (by kernel_rfl))
 f197:=Tryz.func184.trans (congrArg some (by kernel_rfl))
 f217:=Tryz.func219.trans (congrArg some (by kernel_rfl))
 f218:=Tryz.func199.trans (congrArg some (by kernel_rfl))
 f219:=Tryz.func202.trans (congrArg some (by kernel_rfl))
 f224:=Tryz.func221.trans (congrArg some (by kernel_rfl))
 f225:=Tryz.func220.trans (congrArg some (by kernel_rfl))
 f240:=Tryz.func200.trans (congrArg some (by kernel_rfl))
 f241:=Tryz.func201.trans (congrArg some (by kernel_rfl))
 f260:=Tryz.func203.trans (congrArg some (by kernel_rfl))
 f266:=Tryz.func230.trans (congrArg some (by kernel_rfl))
 f267:=Tryz.func222.trans (congrArg some (by kernel_rfl))
 f276:=Tryz.func217.trans (congrArg some (by kernel_rfl))
 f277:=Tryz.func218.trans (congrArg some (by kernel_rfl))
 f314:=Tryz.func231.trans (congrArg some (by kernel_rfl))
 t0:=Tryz.underlying0
 a0:=Tryz.isAgg0
 z0:=Tryz.sizeOf0
 v0:=Tryz.zeroValue0
 t3:=Tryz.underlying3
 a3:=Tryz.isAgg3
 z3:=Tryz.sizeOf3
 v3:=Tryz.zeroValue3
 t4:=Tryz.underlying4
 a4:=Tryz.isAgg4
 z4:=Tryz.sizeOf4
 v4:=Tryz.zeroValue4
 t5:=Tryz.underlying5
 a5:=Tryz.isAgg5
 z5:=Tryz.sizeOf5
 v5:=Tryz.zeroValue5
 t9:=Tryz.underlying9
 a9:=Tryz.isAgg9
 z9:=Tryz.sizeOf9
 v9:=Tryz.zeroValue9
 t20:=Tryz.underlying20
 a20:=Tryz.isAgg20
 z20:=Tryz.sizeOf20
 v20:=Tryz.zeroValue20
 t21:=Tryz.underlying21
 a21:=Tryz.isAgg21
 z21:=Tryz.sizeOf21
 v21:=Tryz.zeroValue21
 t37:=Tryz.underlying52
 a37:=Tryz.isAgg52
 z37:=Tryz.sizeOf52
 v37:=Tryz.zeroValue52
 t46:=Tryz.underlying170
 a46:=Tryz.isAgg170
 z46:=Tryz.sizeOf170
 v46:=Tryz.zeroValue170
 t51:=Tryz.underlying168
 a51:=Tryz.isAgg168
 z51:=Tryz.sizeOf168
 v51:=Tryz.zeroValue168
 t70:=Tryz.underlying160
 a70:=Tryz.isAgg160
 z70:=Tryz.sizeOf160
 v70:=Tryz.zeroValue160
 t72:=Tryz.underlying162
 a72:=Tryz.isAgg162
 z72:=Tryz.sizeOf162
 v72:=Tryz.zeroValue162
 t75:=Tryz.underlying153
 a75:=Tryz.isAgg153
 z75:=Tryz.sizeOf153
 v75:=Tryz.zeroValue153
 t76:=Tryz.underlying154
 a76:=Tryz.isAgg154
 z76:=Tryz.sizeOf154
 v76:=Tryz.zeroValue154
 t105:=Tryz.underlying164
 a105:=Tryz.isAgg164
 z105:=Tryz.sizeOf164
 v105:=Tryz.zeroValue164
 t119:=Tryz.underlying191
 a119:=Tryz.isAgg191
 z119:=Tryz.sizeOf191
 t127:=Tryz.underlying180
 a127:=Tryz.isAgg180
 z127:=Tryz.sizeOf180
 v127:=Tryz.zeroValue180
 t138:=Tryz.underlying193
 a138:=Tryz.isAgg193
 z138:=Tryz.sizeOf193
 v138:=Tryz.zeroValue193
 t139:=Tryz.underlying194
 a139:=Tryz.isAgg194
 z139:=Tryz.sizeOf194
 v139:=Tryz.zeroValue194
 t146:=Tryz.underlying204
 a146:=Tryz.isAgg204
 z146:=Tryz.sizeOf204
 v146:=Tryz.zeroValue204
 t164:=Tryz.underlying188
 a164:=Tryz.isAgg188
 z164:=Tryz.sizeOf188
 v164:=Tryz.zeroValue188
 g1:=by kernel_rfl
 g3:=by kernel_rfl
 g4:=by kernel_rfl }
def Tryz.Us:Builder.Extra Tryz.prog Tryz.WA:={
 sizeBuilder:=by kernel_rfl
 liesBuilder:=by kernel_rfl
 t5:=Tryz.underlying5
 a5:=Tryz.isAgg5
 z5:=Tryz.sizeOf5
 v5:=Tryz.zeroValue5
 infoByte:=by kernel_rfl
 cellsByte:=by kernel_rfl
 sizeByte:=by kernel_rfl
 neB5:=by decide }
open Go.RowKit Go.Lib in
def Tryz.strings_Replace(s old new:ByteArray)(n:Int)(m:Int)(w:World)(hs:s.size < 4294967281)(hm:w.cell? ⟨5,0,none⟩=some (.int .i64 m))(h1:1<=old.size)(hlen:s.size+Lib.countB s old*new.size<=140737488355328) :
   Calls Tryz.prog 163 #[.string s,.string old,.string new,.int .i64 n] w λe w' =>
     e=.returned (.string ⟨(Lib.replace s.data.toList old.data.toList new.data.toList n).toArray⟩)/\Below w.heap.size w w':=Any.strings_Replace Tryz.anA Tryz.Us s old new n m w hs hm h1 hlen
end Go.Proofs
namespace Go.Proofs.YtpbkhogolfegfaaGreatDoor
open AI Go LexS
def GH(s:List UInt8):AV:=.sc (.string ⟨s.toArray⟩)
namespace Hd
def alG:List AV:=(List.range 128).map λi=>.sc (.int .u8 (LY i:Nat))
def apT:List AV:=Gc.map GH
def int(n:Int):AV:=.sc (.int .i64 n)
def aqM(n:Int):AV:=.sc (.int .u64 n)
def G(mx:Int):Bc:=λg =>
 match Nat.beq g 2 with
 | true=>some [GH [111,114],GH [],GH [],GH [],GH [],GH [],GH [97,110,100],GH [],GH [],GH [],GH [],GH [],GH [],GH [],GH [],GH [],GH [],GH [],GH [61,61],GH [33,61],GH [60],GH [60,61],GH [62],GH [62,61],GH [43],GH [45],GH [],GH [],GH [],GH [],GH [42],GH [47],GH [97,116],GH [],GH [],GH []]
 | false=>match Nat.beq g 1 with
   | true=>some [GH [],GH [101,97,114,110],GH [100,101,100,117,99,116],GH [102,108,111,111,114],GH [105,110,102,111]]
   | false=>match Nat.beq g 12 with
     | true=>some [int 0,int 31,int 59,int 90,int 120,int 151,int 181,int 212,int 243,int 273,int 304,int 334,int 365]
     | false=>match Nat.beq g 3 with
       | true=>some alG
       | false=>match Nat.beq g 0 with
         | true=>some apT
         | false=>match Nat.beq g 5 with
           | true=>some [int mx]
           | false=>match Nat.beq g 4 with
             | true=>some (Lib.pow10Tab.map aqM)
             | false=>none
variable {mx:Int}
def mixed:Tryz.prog.follows .mixedOrders=true:=by kernel_rfl
def YZ:∀l:List (List UInt8),BN (l.map GH)=true
 | []=>rfl
 | s::l=>by
   show(true&&BN (l.map GH))=true;rw[YZ l];rfl
def kC:∀l:List Nat,BN (l.map λi=>(.sc (.int .u8 (LY i:Nat)):AV))=true
 | []=>rfl
 | s::l=>by
   show(true&&BN (l.map λi=>(.sc (.int .u8 (LY i:Nat)):AV)))=true;rw[kC l];rfl
def aZ:∀l:List Int,BN (l.map aqM)=true
 | []=>rfl
 | s::l=>by
   show(true&&BN (l.map aqM))=true;rw[aZ l];rfl
def Aa(g:Nat)(cs:List AV)(h:G mx g=some cs):BN cs=true:=by
 unfold G at h;split at h;cases h;rfl;split at h;cases h;rfl;split at h;cases h;rfl;split at h;cases h;exact kC _;split at h;cases h;exact YZ _;split at h;cases h;rfl;split at h;cases h;exact aZ _;cases h
end Hd
end Go.Proofs.YtpbkhogolfegfaaGreatDoor
namespace Go.Proofs.YtpbkhogolfegfaaGreatDoor
open AI Go
namespace Mo
abbrev P:Program:=Tryz.prog
abbrev G(mx:Int):Bc:=Hd.G mx
variable {G0:Bc}
def Xo{i n:Nat}(h:i < n):Et ((i:Nat):Int) ((n:Nat):Int)=true:=by rw[Sg];simp;exact h
def gM{i n:Nat}(h:n<=i):Et ((i:Nat):Int) ((n:Nat):Int)=false:=by rw[Sg];simp;omega
def E8{a b:Int}(h:CV a b=true):a=b:=by rw[NY] at h;simpa using h
def UL{a b:Int}(h:CV a b=false):a≠b:=by rw[NY] at h;simpa using h
def aeH{a b:Int}(h:Nv a b=false):b < a:=by rw[YI] at h;have:=of_decide_eq_false h;omega
def YO{a b:Int}(h:Et a b=true):a < b:=by rw[Sg] at h;exact of_decide_eq_true h
def K2{a b:Int}(h:Et a b=false):b<=a:=by rw[Sg] at h;have:=of_decide_eq_false h;omega
def Ag{β:Type}{b:Bool}{t f:Option β}{r:β}{X:Prop}(h1:b=true->t=some r->X)(h2:b=false->f=some r->X):cond b t f=some r->X:=λh=>(aJD h).elim (λx=>h1 x.1 x.2) λx=>h2 x.1 x.2
def Aq{β κ:Type}{m:Option κ}{k:κ->Option β}{r:β}{X:Prop}(h1:∀y,m=some y->k y=some r->X):m.bind k=some r->X:=λh=>(cY h).elim λy x=>h1 y x.1 x.2
def aDN{β:Type}{n:Nat}{x:Option β}{r:β}{X:Prop}(h1:n<=9223372036854775807->x=some r->X):Rt n x=some r->X:=λh=>h1 (ayA h).1 (ayA h).2
def K1{β:Type}{n:Nat}{x:Option β}{r:β}{X:Prop}(h1:n<=100000000->x=some r->X):MH n x=some r->X:=λh=>h1 (aeQ h).1 (aeQ h).2
def eR{β:Type}{r:β}{X:Prop}:(none:Option β)=some r->X:=λh=>nomatch h
def JK{a b:Int}(h:a=b):CV a b=true:=by rw[NY];simpa using h
def KZ{a b:Int}(h:a≠b):CV a b=false:=by rw[NY];simpa using h
def YJ{a b:Int}(h:a<=b):Nv a b=true:=by rw[YI];exact decide_eq_true h
def U0{a b:Int}(h:b < a):Nv a b=false:=by rw[YI];exact decide_eq_false (by omega)
def Ij{a b:Int}(h:a < b):Et a b=true:=by rw[Sg];exact decide_eq_true h
def H5{a b:Int}(h:b<=a):Et a b=false:=by rw[Sg];exact decide_eq_false (by omega)
def OT{a b:ByteArray}(h:BY a.data.toList b.data.toList=true):a=b:=by
 rw[TG] at h;exact ByteArray.ext (Array.ext' (eq_of_beq h))
def abU{a b:ByteArray}(h:BY a.data.toList b.data.toList=false):a≠b:=λe=>by
 subst e;rw[TG] at h;simp at h
def fq{n m:Nat}{a:AV}(h:plain a=true):FP n m:=⟨a,a,.plain h⟩
def aDZ{n:Nat}{l:List AV}(h:BN l=true):plain (.sl .lost n l)=true:=by simp only[plain,h];rfl
def WH{n:Nat}{l:List AV}(h:BN l=true):plain (.sl .full n l)=true:=by simp only[plain,h];rfl
def Zn{n m r sz k:Nat}{l:List AV}(h:decide (r < m)=true)(t:FD n m l=true):under n m (.sl (.row r sz) k l)=true:=by simp only[under,h,t];rfl
def inC(x:Int):List AV:=[.sc (.int .i64 x)]
def u8C(x:Int):List AV:=[.sc (.int .u8 x)]
def stC(x:ByteArray):List AV:=[.sc (.string x)]
def axX:Rk inC (rows inC) 1:=⟨λ_=>rfl,λ_=>rfl,λ_=>rfl⟩
def eK:Rk stC (rows stC) 1:=⟨λ_=>rfl,λ_=>rfl,λ_=>rfl⟩
structure Pc where
 fr:Int
 AH:Int
 MZ:Int
def IJ(x:Pc):List AV:=[.sc (.int .i64 x.fr),.sc (.int .i64 x.AH),.sc (.int .i64 x.MZ)]
def P4:Rk IJ (rows IJ) 3:=⟨λ_=>rfl,λ_=>rfl,λx=>(A1 rfl (A1 rfl (A1 rfl rfl)))⟩
structure Pt where
 fr:Int
 AH:Int
 num:Int
 den:Int
def Xu(x:Pt):List AV:=[.sc (.int .i64 x.fr),.sc (.int .i64 x.AH),.sc (.int .i64 x.num),.sc (.int .i64 x.den)]
def P5:Rk Xu (rows Xu) 4:=⟨λ_=>rfl,λ_=>rfl,λx=>(A1 rfl (A1 rfl (A1 rfl (A1 rfl rfl))))⟩
structure Fn where
 den:Int
 ps:(List Pc)
def rQ(x:Fn):List AV:=[.sc (.int .i64 x.den),.sl .lost x.ps.length (rows IJ x.ps)]
def jK:Rk rQ (rows rQ) 2:=⟨λ_=>rfl,λ_=>rfl,λx=>(A1 rfl (A1 (P4.Ky x.ps) rfl))⟩
structure Nd where
 kind:Int
 name:ByteArray
 unit:ByteArray
 n:Int
 fr:Int
 to:Int
 known:Int
 Cz:Fn
 kids:(List Nd)
 AH:Int
mutual
def ndK:Nd->List AV
 | ⟨kind,name,unit,n,fr,to,known,Cz,kids,AH⟩=>[.sc (.int .i64 kind),.sc (.string name),.sc (.string unit),.sc (.int .i64 n),.sc (.int .i64 fr),.sc (.int .i64 to),.sc (.int .i64 known),.sc (.int .i64 Cz.den),.sl .lost Cz.ps.length (rows IJ Cz.ps),.sl .lost kids.length (BH kids),.sc (.int .i64 AH)]
def BH:List Nd->List AV
 | []=>[]
 | k::ks=>ndK k++BH ks
end
def CP(x:Nd):List AV:=[.sc (.int .i64 x.kind),.sc (.string x.name),.sc (.string x.unit),.sc (.int .i64 x.n),.sc (.int .i64 x.fr),.sc (.int .i64 x.to),.sc (.int .i64 x.known),.sc (.int .i64 x.Cz.den),.sl .lost x.Cz.ps.length (rows IJ x.Cz.ps),.sl .lost x.kids.length (BH x.kids),.sc (.int .i64 x.AH)]
def aeY(x:Nd):ndK x=CP x:=by cases x;rfl
def sZ(l:List Nd):BH l=rows CP l:=by
 induction l with
 | nil=>rfl
 | cons k ks ih=>rw[I2,BH,ih,aeY]
mutual
def aeZ:∀x:Nd,BN (ndK x)=true
 | ⟨kind,name,unit,n,fr,to,known,Cz,kids,AH⟩=>by rw[ndK];exact(A1 rfl (A1 rfl (A1 rfl (A1 rfl (A1 rfl (A1 rfl (A1 rfl (A1 rfl (A1 (P4.Ky Cz.ps) (A1 (aDZ (tA kids)) (A1 rfl rfl)))))))))))
def tA:∀l:List Nd,BN (BH l)=true
 | []=>rfl
 | k::ks=>by rw[BH];exact atN (aeZ k) (tA ks)
end
def AE:Rk CP BH 11:=⟨sZ,λ_=>rfl,λx=>by rw[<- aeY];exact aeZ x⟩
structure Ex where
 op:Int
 n:Int
 unit:ByteArray
 Cz:Fn
 kids:(List Ex)
mutual
def exK:Ex->List AV
 | ⟨op,n,unit,Cz,kids⟩=>[.sc (.int .i64 op),.sc (.int .i64 n),.sc (.string unit),.sc (.int .i64 Cz.den),.sl .lost Cz.ps.length (rows IJ Cz.ps),.sl .lost kids.length (alR kids)]
def alR:List Ex->List AV
 | []=>[]
 | k::ks=>exK k++alR ks
end
mutual
def avS:∀x:Ex,BN (exK x)=true
 | ⟨op,n,unit,Cz,kids⟩=>by rw[exK];exact(A1 rfl (A1 rfl (A1 rfl (A1 rfl (A1 (P4.Ky Cz.ps) (A1 (aDZ (rP kids)) rfl))))))
def rP:∀l:List Ex,BN (alR l)=true
 | []=>rfl
 | k::ks=>by rw[alR];exact atN (avS k) (rP ks)
end
structure Ar where
 number:Int
 line:Int
 aNY:Int
 fr:Int
 to:Int
 known:Int
 wh:(List Ex)
 un:(List Int)
 am:Ex
structure Dc where
 name:ByteArray
 unit:ByteArray
 aNZ:Int
structure Co where
 facts:(List Dc)
 lines:(List Dc)
 aNO:(List Ar)
structure Tk where
 kind:Int
 text:ByteArray
 AH:Int
def Gz(x:Tk):List AV:=[.sc (.int .i64 x.kind),.sc (.string x.text),.sc (.int .i64 x.AH)]
def BM:Rk Gz (rows Gz) 3:=⟨λ_=>rfl,λ_=>rfl,λx=>(A1 rfl (A1 rfl (A1 rfl rfl)))⟩
structure Dg where
 err:Int
 AH:Int
def PV(x:Dg):List AV:=[.sc (.int .i64 x.err),.sc (.int .i64 x.AH)]
def Cm:Rk PV (rows PV) 2:=⟨λ_=>rfl,λ_=>rfl,λx=>(A1 rfl (A1 rfl rfl))⟩
structure Pr where
 Bs:(List Tk)
 J4:Int
 DI:Int
def Ry(x:Pr):List AV:=[.sl .lost x.Bs.length (rows Gz x.Bs),.sc (.int .i64 x.J4),.sc (.int .i64 x.DI)]
def CM:Rk Ry (rows Ry) 3:=⟨λ_=>rfl,λ_=>rfl,λx=>(A1 (BM.Ky x.Bs) (A1 rfl (A1 rfl rfl)))⟩
structure Ps where
 l:(List Tk)
 at_:Int
 end_:Int
 err:Int
 aNK:Int
structure Ck where
 nodes:Int
def Jy(x:Ck):List AV:=[.sc (.int .i64 x.nodes)]
def Rr:Rk Jy (rows Jy) 1:=⟨λ_=>rfl,λ_=>rfl,λx=>(A1 rfl rfl)⟩
structure Cq where
 src:Nd
 aNI:(List Dg)
structure Ft where
 aBH:Co
 lines:(Mm Int Int)
 nodes:Int
structure Sc where
 facts:(Mm ByteArray ByteArray)
 lines:(Mm ByteArray ByteArray)
 aaN:(Mm Int ByteArray)
structure Tr where
 aBH:Co
 facts:(Mm ByteArray Int)
 lines:(Mm ByteArray Int)
 aaN:(Mm Int Int)
def u24:P.underlying 24=some (.slice 64):=by kernel_rfl
def s64:(P.info? 64).map (·.size)=some 3:=by kernel_rfl
def i64:(P.info? 64).map (λi=>(i.size,i.bytes,i.zero.map (·.cells.size)))=some (3,24,some 3):=by kernel_rfl
def WW(own:AI.Own){l:List Pc}{i:Nat}{x:Pc}(h:l[i]?=some x):Dw P 24 (.sl own l.length (rows IJ l)) (.sc (.int .i64 ((i:Nat):Int)))=some (.el (IJ x++rows IJ (l.drop (i+1)))):=P4.ix u24 s64 own h
def aDC(own:AI.Own){l:List Pc}{z:Int}{x:Pc}(h:Hu l z=some x):Dw P 24 (.sl own l.length (rows IJ l)) (.sc (.int .i64 z))=some (.el (IJ x++rows IJ (l.drop (z.toNat+1)))):=P4.ixz u24 s64 own h
def aBS(own:AI.Own)(l m:List Pc){o:AI.Own}{n:Nat}{ns:List AV}(hn:Wn ns (rows IJ m))(oP:n=m.length)(ho:ns.all one=true)(hm:m.length≠0)(hlen:l.length+m.length<=100000000):Cd.ok P G0 (.ZP 24 24 own l.length (rows IJ l) (.sl o n ns) 3 (l++m).length (rows IJ (l++m))):=P4.ZP u24 u24 i64 (by decide) (by decide) own l m hn oP ho hm hlen
def u27:P.underlying 27=some (.slice 29):=by kernel_rfl
def s29:(P.info? 29).map (·.size)=some 11:=by kernel_rfl
def i29:(P.info? 29).map (λi=>(i.size,i.bytes,i.zero.map (·.cells.size)))=some (11,136,some 11):=by kernel_rfl
def J7(own:AI.Own){l:List Nd}{i:Nat}{x:Nd}(h:l[i]?=some x):Dw P 27 (.sl own l.length (BH l)) (.sc (.int .i64 ((i:Nat):Int)))=some (.el (CP x++BH (l.drop (i+1)))):=AE.ix u27 s29 own h
def Sb(own:AI.Own)(l m:List Nd){o:AI.Own}{n:Nat}{ns:List AV}(hn:Wn ns (BH m))(oP:n=m.length)(ho:ns.all one=true)(hm:m.length≠0)(hlen:l.length+m.length<=100000000):Cd.ok P G0 (.ZP 27 27 own l.length (BH l) (.sl o n ns) 11 (l++m).length (BH (l++m))):=AE.ZP u27 u27 i29 (by decide) (by decide) own l m hn oP ho hm hlen
def acL(own:AI.Own)(l m:List Nd){o:AI.Own}{n:Nat}{ns cs:List AV}(e:cs=BH l)(hn:Wn ns (BH m))(oP:n=m.length)(ho:ns.all one=true)(hm:m.length≠0)(hlen:l.length+m.length<=100000000):Cd.ok P G0 (.ZP 27 27 own l.length cs (.sl o n ns) 11 (l++m).length (BH (l++m))):=e▸Sb own l m hn oP ho hm hlen
def rZ(own:AI.Own)(l m:List Nd){o:AI.Own}(hm:¬m.length=0)(hlen:l.length+m.length<=100000000):Cd.ok P G0 (.ZP 27 27 own l.length (BH l) (.sl o m.length (BH m)) 11 (l++m).length (BH (l++m))):=AE.ZP u27 u27 i29 (by decide) (by decide) own l m (Wn.refl _) rfl (AE.auV (λ_=>rfl) m) hm hlen
def alW(own:AI.Own)(l m:List Nd){o:AI.Own}(s:AS)(hm:m.length=0)(hlen:l.length+m.length<=100000000):Cd.ok P G0 (.Wk s 27 27 (.sl own l.length (BH l)) (.sl o m.length (BH m)) (.sl own l.length (BH l)) s):=AE.ga u27 u27 i29 (by decide) (by decide) own l m s hm hlen
def u30:P.underlying 30=some (.slice 45):=by kernel_rfl
def s45:(P.info? 45).map (·.size)=some 2:=by kernel_rfl
def i45:(P.info? 45).map (λi=>(i.size,i.bytes,i.zero.map (·.cells.size)))=some (2,16,some 2):=by kernel_rfl
def amW(own:AI.Own){l:List Dg}{i:Nat}{x:Dg}(h:l[i]?=some x):Dw P 30 (.sl own l.length (rows PV l)) (.sc (.int .i64 ((i:Nat):Int)))=some (.el (PV x++rows PV (l.drop (i+1)))):=Cm.ix u30 s45 own h
def aBT(own:AI.Own)(l m:List Dg){o:AI.Own}{n:Nat}{ns:List AV}(hn:Wn ns (rows PV m))(oP:n=m.length)(ho:ns.all one=true)(hm:m.length≠0)(hlen:l.length+m.length<=100000000):Cd.ok P G0 (.ZP 30 30 own l.length (rows PV l) (.sl o n ns) 2 (l++m).length (rows PV (l++m))):=Cm.ZP u30 u30 i45 (by decide) (by decide) own l m hn oP ho hm hlen
def u38:P.underlying 38=some (.slice 43):=by kernel_rfl
def s43:(P.info? 43).map (·.size)=some 3:=by kernel_rfl
def i43:(P.info? 43).map (λi=>(i.size,i.bytes,i.zero.map (·.cells.size)))=some (3,32,some 3):=by kernel_rfl
def aeB(own:AI.Own){l:List Tk}{z:Int}{x:Tk}(h:Hu l z=some x):Dw P 38 (.sl own l.length (rows Gz l)) (.sc (.int .i64 z))=some (.el (Gz x++rows Gz (l.drop (z.toNat+1)))):=BM.ixz u38 s43 own h
def aBU(own:AI.Own)(l m:List Tk){o:AI.Own}{n:Nat}{ns:List AV}(hn:Wn ns (rows Gz m))(oP:n=m.length)(ho:ns.all one=true)(hm:m.length≠0)(hlen:l.length+m.length<=100000000):Cd.ok P G0 (.ZP 38 38 own l.length (rows Gz l) (.sl o n ns) 3 (l++m).length (rows Gz (l++m))):=BM.ZP u38 u38 i43 (by decide) (by decide) own l m hn oP ho hm hlen
def s5:(P.info? 5).map (·.size)=some 1:=by kernel_rfl
def i5:(P.info? 5).map (λi=>(i.size,i.bytes,i.zero.map (·.cells.size)))=some (1,1,some 1):=by kernel_rfl
def u57:P.underlying 57=some (.slice 9):=by kernel_rfl
def s9:(P.info? 9).map (·.size)=some 1:=by kernel_rfl
def axT(own:AI.Own){l:List ByteArray}{i:Nat}{x:ByteArray}(h:l[i]?=some x):Dw P 57 (.sl own l.length (rows stC l)) (.sc (.int .i64 ((i:Nat):Int)))=some (.el (stC x++rows stC (l.drop (i+1)))):=eK.ix u57 s9 own h
def aqL:P.underlying 174=some (.slice 176):=by kernel_rfl
def aEJ:(P.info? 176).map (·.size)=some 4:=by kernel_rfl
def i176:(P.info? 176).map (λi=>(i.size,i.bytes,i.zero.map (·.cells.size)))=some (4,32,some 4):=by kernel_rfl
def aDB(own:AI.Own){l:List Pt}{i:Nat}{x:Pt}(h:l[i]?=some x):Dw P 174 (.sl own l.length (rows Xu l)) (.sc (.int .i64 ((i:Nat):Int)))=some (.el (Xu x++rows Xu (l.drop (i+1)))):=P5.ix aqL aEJ own h
def axU(own:AI.Own){l:List Pt}{z:Int}{x:Pt}(h:Hu l z=some x):Dw P 174 (.sl own l.length (rows Xu l)) (.sc (.int .i64 z))=some (.el (Xu x++rows Xu (l.drop (z.toNat+1)))):=P5.ixz aqL aEJ own h
def avZ(own:AI.Own)(l m:List Pt){o:AI.Own}{n:Nat}{ns:List AV}(hn:Wn ns (rows Xu m))(oP:n=m.length)(ho:ns.all one=true)(hm:m.length≠0)(hlen:l.length+m.length<=100000000):Cd.ok P G0 (.ZP 174 174 own l.length (rows Xu l) (.sl o n ns) 4 (l++m).length (rows Xu (l++m))):=P5.ZP aqL aqL i176 (by decide) (by decide) own l m hn oP ho hm hlen
def s3:(P.info? 3).map (·.size)=some 1:=by kernel_rfl
def i3:(P.info? 3).map (λi=>(i.size,i.bytes,i.zero.map (·.cells.size)))=some (1,8,some 1):=by kernel_rfl
def w64(x:Int):Int:=IntKind.i64.wrap x
def zF(x y:Int):Int:=IntKind.i64.wrap (x.tdiv y)
def mB(x y:Int):Int:=x.tmod y
def S6(x y:Int):Option Int:=if y=0 then none else some (zF x y)
def Ye(x y:Int):Option Int:=if y=0 then none else some (mB x y)
def Qq(s:ByteArray)(l h:Int):Option ByteArray:=if 0<=l/\l<=h/\h<=((s.data.toList.length:Nat):Int) then some ⟨((s.data.toList.drop l.toNat).take (h.toNat - l.toNat)).toArray⟩ else none
def ahM{α:Type}(s:List α)(l h:Int):Option (List α):=if 0<=l/\l<=h/\h<=((s.length:Nat):Int) then some ((s.drop l.toNat).take (h.toNat - l.toNat)) else none
def cT(z:Int)(h:0<=z):S2 (.sc (.int .i64 z))=some z.toNat:=by unfold S2;simp[h]
def Q4{a b c:Int}(h:S6 a b=some c)(x y:Operand):LP P .quo 3 x y (.sc (.int .i64 a)) (.sc (.int .i64 b))=some (.sc (.int .i64 c)):=by
 unfold S6 at h;split at h;cases h;rename_i hb;cases h;simp[LP,Rl,Vj,eqGuard,binOp,Op.intDiv,hb,AI.pv,Z1,scalar,zF,Bind.bind,Sem.bind,Pure.pure]
def fD{a b c:Int}(h:Ye a b=some c)(x y:Operand):LP P .rem 3 x y (.sc (.int .i64 a)) (.sc (.int .i64 b))=some (.sc (.int .i64 c)):=by
 unfold Ye at h;split at h;cases h;rename_i hb;cases h;simp[LP,Rl,Vj,eqGuard,binOp,Op.intDiv,hb,AI.pv,Z1,scalar,mB,Bind.bind,Sem.bind,Pure.pure]
def us9:P.underlying 9=some .string:=by kernel_rfl
def alD{x y:ByteArray}(h:x.data.toList.length+y.data.toList.length<=9223372036854775807)(ox oy:Operand):LP P .add 9 ox oy (.sc (.string x)) (.sc (.string y))=some (.sc (.string (x++y))):=avF h ox oy
def WX{s:ByteArray}{i:Nat}{c:UInt8}(h:s.data.toList[i]?=some c):Lk P 9 (.sc (.string s)) (.sc (.int .i64 ((i:Nat):Int)))=some (.sc (.int .u8 ((c.toNat:Nat):Int))):=by
 unfold Lk;rw[us9,cT _ (by omega)];simp only[Int.toNat_natCast,h]
def Ji{s:ByteArray}{z:Int}{c:UInt8}(h:Hu s.data.toList z=some c):Lk P 9 (.sc (.string s)) (.sc (.int .i64 z))=some (.sc (.int .u8 ((c.toNat:Nat):Int))):=by
 unfold Hu at h;split at h;rename_i hz;have:=WX h;rwa[Int.toNat_of_nonneg hz] at this;cases h
def Iu{s v:ByteArray}{l h:Int}(e:Qq s l h=some v):L2 P 9 (.sc (.string s)) (some (.sc (.int .i64 l))) (some (.sc (.int .i64 h))) none=some (.sc (.string v)):=by
 unfold Qq at e;split at e;rename_i hc;cases e;unfold L2;rw[us9];simp only[NT,cT l hc.1,cT h (by omega)];rw[if_pos ⟨by omega,by omega⟩];cases e
def apS(l h:Nat){s:List Nd}(h1:l<=h)(h2:h<=s.length)(lo hi:Option AV)(e1:NT 0 lo=some l)(e2:NT s.length hi=some h):L2 P 27 (.sl .lost s.length (BH s)) lo hi none=some (.sl .lost ((s.drop l).take (h - l)).length (BH ((s.drop l).take (h - l)))):=AE.sub u27 s29 l h h1 h2 lo hi e1 e2
def uE{s v:List Nd}{l:Int}(e:ahM s l ((s.length:Nat):Int)=some v):L2 P 27 (.sl .lost s.length (BH s)) (some (.sc (.int .i64 l))) (none) none=some (.sl .lost v.length (BH v)):=by
 unfold ahM at e;split at e;rename_i hc;cases e;exact apS _ _ (by omega) (by omega) _ _ (cT l hc.1) rfl;cases e
def PG(x y:Pc):Bool:=x.fr == y.fr&&(x.AH == y.AH&&(x.MZ == y.MZ))
def qG(x y:Pc):ZL [.int .i64 x.fr,.int .i64 x.AH,.int .i64 x.MZ] [.int .i64 y.fr,.int .i64 y.AH,.int .i64 y.MZ]=some (PG x y):=by
 simp only[ZL,fEq,PG,if_true,Option.bind_some];cases (x.fr == y.fr)<;>cases (x.AH == y.AH)<;>cases (x.MZ == y.MZ)<;>rfl
def avW:Flat P 64 [1,1,1]:=⟨by kernel_rfl,by kernel_rfl,by kernel_rfl,by kernel_rfl,by kernel_rfl,by kernel_rfl⟩
def aQ{x y:Pc}{b:Bool}(h:PG x y=b)(ox oy:Operand):LP P .neq 64 ox oy (.agg (IJ x)) (.agg (IJ y))=some (.sc (.bool (!b))):=by
 subst h;exact(avW.bin (us:=[.int .i64 x.fr,.int .i64 x.AH,.int .i64 x.MZ]) (vs:=[.int .i64 y.fr,.int .i64 y.AH,.int .i64 y.MZ]) ⟨.inl ⟨_,rfl,rfl⟩,⟨.inl ⟨_,rfl,rfl⟩,⟨.inl ⟨_,rfl,rfl⟩,trivial⟩⟩⟩ ⟨.inl ⟨_,rfl,rfl⟩,⟨.inl ⟨_,rfl,rfl⟩,⟨.inl ⟨_,rfl,rfl⟩,trivial⟩⟩⟩ (qG x y) ox oy).2
def fJ(x y:Dg):Bool:=x.err == y.err&&(x.AH == y.AH)
def qE(x y:Dg):ZL [.int .i64 x.err,.int .i64 x.AH] [.int .i64 y.err,.int .i64 y.AH]=some (fJ x y):=by
 simp only[ZL,fEq,fJ,if_true,Option.bind_some];cases (x.err == y.err)<;>cases (x.AH == y.AH)<;>rfl
def avV:Flat P 45 [1,1]:=⟨by kernel_rfl,by kernel_rfl,by kernel_rfl,by kernel_rfl,by kernel_rfl,by kernel_rfl⟩
def atI{x y:Dg}{b:Bool}(h:fJ x y=b)(ox oy:Operand):LP P .neq 45 ox oy (.agg (PV x)) (.agg (PV y))=some (.sc (.bool (!b))):=by
 subst h;exact(avV.bin (us:=[.int .i64 x.err,.int .i64 x.AH]) (vs:=[.int .i64 y.err,.int .i64 y.AH]) ⟨.inl ⟨_,rfl,rfl⟩,⟨.inl ⟨_,rfl,rfl⟩,trivial⟩⟩ ⟨.inl ⟨_,rfl,rfl⟩,⟨.inl ⟨_,rfl,rfl⟩,trivial⟩⟩ (qE x y) ox oy).2
def beforeL:List Int:=[0,31,59,90,120,151,181,212,243,273,304,334,365]
def oY{z:Int}{x:Int}(h:Hu beforeL z=some x):Dw P 203 (.el (rows inC beforeL)) (.sc (.int .i64 z))=some (.el (inC x++rows inC (beforeL.drop (z.toNat+1)))):=axX.ixa (elem:=3) (len:=13) (by kernel_rfl) (by kernel_rfl) rfl h
def aFS{a b:ByteArray}{q:Bool}(h:some (BY a.data.toList b.data.toList)=some q)(x y:Operand):LP P .eql 9 x y (.sc (.string a)) (.sc (.string b))=some (.sc (.bool q)):=by
 rw[<- Ux];cases h
 kernel_rfl
def aFT{a b:Int}{q:Bool}(h:some (Nv a b)=some q)(x y:Operand):LP P .leq 3 x y (.sc (.int .i64 a)) (.sc (.int .i64 b))=some (.sc (.bool q)):=by
 rw[<- Ux];cases h
 kernel_rfl
def ZZ:ByteArray:=⟨#[10]⟩
def HH:ByteArray:=⟨#[33,61]⟩
def T4:ByteArray:=⟨#[40]⟩
def VW:ByteArray:=⟨#[41]⟩
def PD:ByteArray:=⟨#[42]⟩
def Oo:ByteArray:=⟨#[43]⟩
def T5:ByteArray:=⟨#[44]⟩
def Lh:ByteArray:=⟨#[45]⟩
def azC:ByteArray:=⟨#[46]⟩
def EC:ByteArray:=⟨#[47]⟩
def pU:ByteArray:=⟨#[47,47]⟩
def Vb:ByteArray:=⟨#[58]⟩
def RL:ByteArray:=⟨#[59]⟩
def JC:ByteArray:=⟨#[60]⟩
def G9:ByteArray:=⟨#[60,61]⟩
def GP:ByteArray:=⟨#[61,61]⟩
def IK:ByteArray:=⟨#[62]⟩
def Fy:ByteArray:=⟨#[62,61]⟩
def aS:ByteArray:=⟨#[97]⟩
def MV:ByteArray:=⟨#[97,32,60,32,98,32,60,32,99]⟩
def EV:ByteArray:=⟨#[97,32,62,32,51,32,97,110,100,32,110,111,116,32,98,32,61,61,32,99]⟩
def QG:ByteArray:=⟨#[97,109,111,117,110,116]⟩
def PQ:ByteArray:=⟨#[97,110,100]⟩
def cW:ByteArray:=⟨#[97,114,116]⟩
def Ig:ByteArray:=⟨#[97,114,116,105,99,108,101]⟩
def iA:ByteArray:=⟨#[97,116]⟩
def bS:ByteArray:=⟨#[98]⟩
def cS:ByteArray:=⟨#[99]⟩
def dF:ByteArray:=⟨#[100,97,121]⟩
def Mk:ByteArray:=⟨#[100,101,100,117,99,116]⟩
def Tj:ByteArray:=⟨#[101,97,114,110]⟩
def Tl:ByteArray:=⟨#[102,97,99,116]⟩
def Ep:ByteArray:=⟨#[102,97,99,116,32,114,97,116,101,32,58,32,69,85,82,32,108,105,110,101,32,120]⟩
def TI:ByteArray:=⟨#[102,97,108,115,101]⟩
def Pl:ByteArray:=⟨#[102,108,111,111,114]⟩
def acF:ByteArray:=⟨#[102,111,114]⟩
def rW:ByteArray:=⟨#[102,114,111,109]⟩
def FR:ByteArray:=⟨#[103,114,101,97,116,101,115,116]⟩
def ED:ByteArray:=⟨#[104,111,117,114,115,32,97,116,32,114,97,116,101,32,43,32,97,114,116,32,51]⟩
def Tq:ByteArray:=⟨#[105,110,102,111]⟩
def VN:ByteArray:=⟨#[107,110,111,119,110]⟩
def KT:ByteArray:=⟨#[108,101,97,115,116]⟩
def OX:ByteArray:=⟨#[108,105,110,101]⟩
def Av:ByteArray:=⟨#[108,105,110,101,32,112,97,121,32,58,32,69,85,82,32,101,97,114,110,59,32,97,114,116,105,99,108,101,32,51,32,102,111,114,32,112,97,121,32,114,97,110,107,32,49,32,102,114,111,109,32,50,48,50,52,45,48,49,45,48,49,32,107,110,111,119,110,32,50,48,50,52,45,48,49,45,48,49,32,123,32,97,109,111,117,110,116,32,69,85,82,32,49,46,53,48,59,32,125]⟩
def anG:ByteArray:=⟨#[109,105,110]⟩
def JQ:ByteArray:=⟨#[109,105,110,117,116,101,115]⟩
def QT:ByteArray:=⟨#[109,111,110,116,104]⟩
def U3:ByteArray:=⟨#[110,111,116]⟩
def EF:ByteArray:=⟨#[110,117,109,98,101,114]⟩
def jW:ByteArray:=⟨#[111,114]⟩
def tM:ByteArray:=⟨#[114,97,110,107]⟩
def Ra:ByteArray:=⟨#[116,97,98,108,101]⟩
def BE:ByteArray:=⟨#[116,97,98,108,101,40,120,59,32,48,32,58,32,48,46,48,48,32,43,32,49,47,49,48,44,32,53,48,48,46,48,48,32,58,32,53,48,46,48,48,32,43,32,49,47,52,41]⟩
def toS:ByteArray:=⟨#[116,111]⟩
def Zm:ByteArray:=⟨#[116,114,117,101]⟩
def Ha:ByteArray:=⟨#[116,114,117,116,104]⟩
def SZ:ByteArray:=⟨#[117,110,108,101,115,115]⟩
def LL:ByteArray:=⟨#[119,101,101,107,100,97,121]⟩
def cG:ByteArray:=⟨#[119,104,101,110]⟩
def Vy:ByteArray:=⟨#[121,101,97,114]⟩
def eZ:ByteArray:=⟨#[123]⟩
def Z0:ByteArray:=⟨#[125]⟩
end Mo
end Go.Proofs.YtpbkhogolfegfaaGreatDoor
namespace Go.Proofs.YtpbkhogolfegfaaGreatDoor
open AI Go
namespace Mo
set_option maxRecDepth 100000
set_option maxHeartbeats 4000000
def ayR(x:Pc):Prop:=(-9223372036854775808<=x.fr/\x.fr<=9223372036854775807)/\(-9223372036854775808<=x.AH/\x.AH<=9223372036854775807)/\(-9223372036854775808<=x.MZ/\x.MZ<=9223372036854775807)
def pL(x:Fn):Prop:=x.ps.length<=9223372036854775807/\(∀y∈x.ps,ayR y)
mutual
def KU:Nd->Prop
 | ⟨kind,name,unit,n,fr,to,known,Cz,kids,AH⟩=>pL Cz/\kids.length<=9223372036854775807/\jV kids
def jV:List Nd->Prop
 | []=>True
 | k::ks=>KU k/\jV ks
end
def aU{l:List Nd}:jV l↔∀k∈l,KU k:=by
 induction l with
 | nil=>simp[jV]
 | cons k l ih=>simp[jV,ih]
def P8(x:Nd):KU x↔pL x.Cz/\x.kids.length<=9223372036854775807/\∀y∈x.kids,KU y:=by
 cases x;rw[KU,aU]
end Mo
end Go.Proofs.YtpbkhogolfegfaaGreatDoor
