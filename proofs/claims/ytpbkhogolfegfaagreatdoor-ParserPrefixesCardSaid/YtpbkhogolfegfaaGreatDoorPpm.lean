/- Part of a proof: see the last text. -/
import Derived.Test.YtpbkhogolfegfaaGreatDoorPpl
import Derived.Shelf.Strings.Builder1
import Derived.Shelf.Strings.Builder2
import Derived.Shelf.Strconv.Atoi
import Derived.Shelf.Strconv.Itoa0
import Derived.Shelf.Strconv.Itoa1
import Derived.Shelf.LaysM
import Derived.Shelf.Strconv.Itoa2
import Derived.Shelf.Strconv.Itoa3
import Derived.Shelf.Strconv.AtoiErrFast
import Derived.Shelf.Strconv.ParseIntEmpty
import Derived.Shelf.Strconv.AtoiFail
import Derived.Shelf.Strconv.Clone
import Derived.Shelf.Strconv.SyntaxError
import Derived.Shelf.LaysC
import Derived.Shelf.Strconv.ToError
import Derived.Shelf.Strconv.Lower
import Derived.Shelf.Strconv.ParseUint10
import Derived.Shelf.Strconv.ParseUint10Empty
import Derived.Shelf.Strconv.ParseUint10Any
import Derived.Shelf.Strconv.ParseInt10
import Derived.Shelf.Strconv.AtoiLong
import Derived.Shelf.Strconv.AtoiInnerAll
import Derived.Shelf.Strconv.RangeError
import Derived.Shelf.Strconv.ToErrorRange
import Derived.Shelf.Strconv.AtoiAll
import Derived.Shelf.Strings.Search1
import Derived.Shelf.Strings.Search2
import Derived.Shelf.Strings.Search3
import Derived.Shelf.Strings.Count
import Derived.Shelf.Strings.Shaped
import Derived.Shelf.Strings.Split
import Derived.Shelf.Strings.Replace
import Derived.Shelf.Unicode.DecodeSlow
import Derived.Test.YtpbkhogolfegfaaGreatDoorProg
import Derived.KernelRfl
set_option linter.unusedVariables false
set_option linter.unusedSimpArgs false
set_option linter.defProp false
noncomputable section
namespace Go.Proofs
open Go.Shelf
def Tryz.iS:Go.Shelf.Ren:=⟨λ| 172=>173 | 244=>193 | 245=>194 | 247=>207 | 279=>208 | 280=>209 | 281=>210 | 282=>211 | 287=>224 | 316=>225 | 171=>64 | 205=>226 | 321=>235 | 322=>236 | 243=>114 | 246=>149 | 283=>166 | 284=>167 | 285=>168 | 286=>169 | 129=>189 | 317=>188 | 318=>190 | 319=>191 | 320=>192 | 337=>205 | 338=>206 | n=>n,λ| 9=>9 | 3=>3 | 75=>153 | 76=>154 | 4=>4 | 5=>5 | 167=>182 | 37=>52 | 0=>0 | 85=>183 | 2=>2 | 168=>185 | 53=>146 | 175=>197 | 46=>170 | 210=>201 | 127=>180 | 145=>210 | 143=>208 | 21=>21 | 171=>145 | 173=>149 | 212=>167 | 51=>168 | 20=>20 | 213=>169 | 232=>195 | 233=>196 | 80=>108 | n=>n,λ| 15=>10 | 16=>11 | 17=>4 | 18=>8 | 19=>9 | n=>n⟩
def Tryz.amL:Go.Proofs.Lays.n172 Tryz.prog Tryz.iS:={
 mixed:=by kernel_rfl
 f129:=Tryz.func189.trans (congrArg some (by kernel_rfl))
 f171:=Tryz.func64.trans (congrArg some (by kernel_rfl))
 f172:=Tryz.func173.trans (congrArg some (by kernel_rfl))
 f205:=Tryz.func226.trans (congrArg some (by kernel_rfl))
 f243:=Tryz.func114.trans (congrArg some (by kernel_rfl))
 f244:=Tryz.func193.trans (congrArg some (by kernel_rfl))
 f245:=Tryz.func194.trans (congrArg some (by kernel_rfl))
 f246:=Tryz.func149.trans (congrArg some (by kernel_rfl))
 f247:=Tryz.func207.trans (congrArg some (by kernel_rfl))
 f279:=Tryz.func208.trans (congrArg some (by kernel_rfl))
 f280:=Tryz.func209.trans (congrArg some (by kernel_rfl))
 f281:=Tryz.func210.trans (congrArg some (by kernel_rfl))
 f282:=Tryz.func211.trans (congrArg some (by kernel_rfl))
 f283:=Tryz.func166.trans (congrArg some (by kernel_rfl))
 f284:=Tryz.func167.trans (congrArg some (by kernel_rfl))
 f285:=Tryz.func168.trans (congrArg some (by kernel_rfl))
 f286:=Tryz.func169.trans (congrArg some (by kernel_rfl))
 f287:=Tryz.func224.trans (congrArg some (by kernel_rfl))
 f316:=Tryz.func225.trans (congrArg some (by kernel_rfl))
 f317:=Tryz.func188.trans (congrArg some (by kernel_rfl))
 f318:=Tryz.func190.trans (congrArg some (by kernel_rfl))
 f319:=Tryz.func191.trans (congrArg some (by kernel_rfl))
 f320:=Tryz.func192.trans (congrArg some (by kernel_rfl))
 f321:=Tryz.func235.trans (congrArg some (by kernel_rfl))
 f322:=Tryz.func236.trans (congrArg some (by kernel_rfl))
 f337:=Tryz.func205.trans (congrArg some (by kernel_rfl))
 f338:=Tryz.func206.trans (congrArg some (by kernel_rfl))
 t0:=Tryz.underlying0
 a0:=Tryz.isAgg0
 z0:=Tryz.sizeOf0
 v0:=Tryz.zeroValue0
 t2:=Tryz.underlying2
 a2:=Tryz.isAgg2
 z2:=Tryz.sizeOf2
 v2:=Tryz.zeroValue2
 t3:=Tryz.underlying3
 a3:=Tryz.isAgg3
 z3:=Tryz.sizeOf3
 v3:=Tryz.zeroValue3
 t4:=Tryz.underlying4
 a4:=Tryz.isAgg4
 z4:=Tryz.sizeOf4
 v4:=Tryz.zeroValue4
 t5:=Tryz.underlying5
 a5:=Tryz.isAgg5
 z5:=Tryz.sizeOf5
 v5:=Tryz.zeroValue5
 t9:=Tryz.underlying9
 a9:=Tryz.isAgg9
 z9:=Tryz.sizeOf9
 v9:=Tryz.zeroValue9
 t20:=Tryz.underlying20
 a20:=Tryz.isAgg20
 z20:=Tryz.sizeOf20
 v20:=Tryz.zeroValue20
 t21:=Tryz.underlying21
 a21:=Tryz.isAgg21
 z21:=Tryz.sizeOf21
 v21:=Tryz.zeroValue21
 t37:=Tryz.underlying52
 a37:=Tryz.isAgg52
 z37:=Tryz.sizeOf52
 v37:=Tryz.zeroValue52
 t46:=Tryz.underlying170
 a46:=Tryz.isAgg170
 z46:=Tryz.sizeOf170
 v46:=Tryz.zeroValue170
 t51:=Tryz.underlying168
 a51:=Tryz.isAgg168
 z51:=Tryz.sizeOf168
 v51:=Tryz.zeroValue168
 t53:=Tryz.underlying146
 a53:=Tryz.isAgg146
 z53:=Tryz.sizeOf146
 v53:=Tryz.zeroValue146
 t75:=Tryz.underlying153
 a75:=Tryz.isAgg153
 z75:=Tryz.sizeOf153
 v75:=Tryz.zeroValue153
 t76:=Tryz.underlying154
 a76:=Tryz.isAgg154
 z76:=Tryz.sizeOf154
 v76:=Tryz.zeroValue154
 t85:=Tryz.underlying183
 a85:=Tryz.isAgg183
 z85:=Tryz.sizeOf183
 v85:=Tryz.zeroValue183
 t127:=Tryz.underlying180
 a127:=Tryz.isAgg180
 z127:=Tryz.sizeOf180
 v127:=Tryz.zeroValue180
 t143:=Tryz.underlying208
 a143:=Tryz.isAgg208
 z143:=Tryz.sizeOf208
 v143:=Tryz.zeroValue208
 t145:=Tryz.underlying210
 a145:=Tryz.isAgg210
 z145:=Tryz.sizeOf210
 v145:=Tryz.zeroValue210
 t167:=Tryz.underlying182
 a167:=Tryz.isAgg182
 z167:=Tryz.sizeOf182
 v167:=Tryz.zeroValue182
 t168:=Tryz.underlying185
 a168:=Tryz.isAgg185
 z168:=Tryz.sizeOf185
 v168:=Tryz.zeroValue185
 t171:=Tryz.underlying145
 a171:=Tryz.isAgg145
 z171:=Tryz.sizeOf145
 v171:=Tryz.zeroValue145
 t173:=Tryz.underlying149
 a173:=Tryz.isAgg149
 z173:=Tryz.sizeOf149
 v173:=Tryz.zeroValue149
 t175:=Tryz.underlying197
 a175:=Tryz.isAgg197
 z175:=Tryz.sizeOf197
 v175:=Tryz.zeroValue197
 t210:=Tryz.underlying201
 a210:=Tryz.isAgg201
 z210:=Tryz.sizeOf201
 v210:=Tryz.zeroValue201
 t212:=Tryz.underlying167
 a212:=Tryz.isAgg167
 z212:=Tryz.sizeOf167
 v212:=Tryz.zeroValue167
 t213:=Tryz.underlying169
 a213:=Tryz.isAgg169
 z213:=Tryz.sizeOf169
 t232:=Tryz.underlying195
 a232:=Tryz.isAgg195
 z232:=Tryz.sizeOf195
 v232:=Tryz.zeroValue195
 t233:=Tryz.underlying196
 a233:=Tryz.isAgg196
 z233:=Tryz.sizeOf196
 v233:=Tryz.zeroValue196
 g15:=by kernel_rfl
 g16:=by kernel_rfl
 g17:=by kernel_rfl
 g18:=by kernel_rfl
 g19:=by kernel_rfl }
open Go.RowKit in
def Tryz.strconv_Atoi(s:ByteArray)(n:Int)(hl:s.size<=18)(h:Lib.atoi s.data.toList=some n)(w:World) :
   Calls Tryz.prog 173 #[.string s] w λe w'=>e=.returned (.tuple #[.int .i64 n,.nilIface])/\∃t,w'=Lib.bytesWorld w 5 t:=Any.strconv_Atoi Tryz.amL s n hl h w
def Tryz.We:Go.Shelf.Ren:=⟨λ| 154=>163 | 138=>180 | 165=>181 | 143=>182 | 166=>183 | 197=>184 | 169=>185 | 195=>198 | 218=>199 | 240=>200 | 241=>201 | 219=>202 | 260=>203 | 276=>217 | 277=>218 | 217=>219 | 225=>220 | 224=>221 | 267=>222 | 266=>230 | 314=>231 | n=>n,λ| 9=>9 | 3=>3 | 4=>4 | 72=>162 | 0=>0 | 76=>154 | 105=>164 | 21=>21 | 5=>5 | 70=>160 | 20=>20 | 37=>52 | 75=>153 | 127=>180 | 164=>188 | 46=>170 | 119=>191 | 139=>194 | 138=>193 | 146=>204 | 51=>168 | 80=>108 | n=>n,λ| 1=>5 | 3=>6 | 4=>7 | n=>n⟩
def Tryz.amK:Go.Proofs.Lays.n154 Tryz.prog Tryz.We:={
 mixed:=by kernel_rfl
 f138:=Tryz.func180.trans (congrArg some (by kernel_rfl))
 f143:=Tryz.func182.trans (congrArg some (by kernel_rfl))
 f154:=Tryz.func163.trans (congrArg some (by kernel_rfl))
 f165:=Tryz.func181.trans (congrArg some (by kernel_rfl))
 f166:=Tryz.func183.trans (congrArg some (by kernel_rfl))
 f169:=Tryz.func185.trans (congrArg some (by kernel_rfl))
 f195:=Tryz.func198.trans (congrArg some (by kernel_rfl))
 f197:=Tryz.func184.trans (congrArg some (by kernel_rfl))
 f217:=Tryz.func219.trans (congrArg some (by kernel_rfl))
 f218:=Tryz.func199.trans (congrArg some (by kernel_rfl))
 f219:=Tryz.func202.trans (congrArg some (by kernel_rfl))
 f224:=Tryz.func221.trans (congrArg some (by kernel_rfl))
 f225:=Tryz.func220.trans (congrArg some (by kernel_rfl))
 f240:=Tryz.func200.trans (congrArg some (by kernel_rfl))
 f241:=Tryz.func201.trans (congrArg some (by kernel_rfl))
 f260:=Tryz.func203.trans (congrArg some (by kernel_rfl))
 f266:=Tryz.func230.trans (congrArg some (by kernel_rfl))
 f267:=Tryz.func222.trans (congrArg some (by kernel_rfl))
 f276:=Tryz.func217.trans (congrArg some (by kernel_rfl))
 f277:=Tryz.func218.trans (congrArg some (by kernel_rfl))
 f314:=Tryz.func231.trans (congrArg some (by kernel_rfl))
 t0:=Tryz.underlying0
 a0:=Tryz.isAgg0
 z0:=Tryz.sizeOf0
 v0:=Tryz.zeroValue0
 t3:=Tryz.underlying3
 a3:=Tryz.isAgg3
 z3:=Tryz.sizeOf3
 v3:=Tryz.zeroValue3
 t4:=Tryz.underlying4
 a4:=Tryz.isAgg4
 z4:=Tryz.sizeOf4
 v4:=Tryz.zeroValue4
 t5:=Tryz.underlying5
 a5:=Tryz.isAgg5
 z5:=Tryz.sizeOf5
 v5:=Tryz.zeroValue5
 t9:=Tryz.underlying9
 a9:=Tryz.isAgg9
 z9:=Tryz.sizeOf9
 v9:=Tryz.zeroValue9
 t20:=Tryz.underlying20
 a20:=Tryz.isAgg20
 z20:=Tryz.sizeOf20
 v20:=Tryz.zeroValue20
 t21:=Tryz.underlying21
 a21:=Tryz.isAgg21
 z21:=Tryz.sizeOf21
 v21:=Tryz.zeroValue21
 t37:=Tryz.underlying52
 a37:=Tryz.isAgg52
 z37:=Tryz.sizeOf52
 v37:=Tryz.zeroValue52
 t46:=Tryz.underlying170
 a46:=Tryz.isAgg170
 z46:=Tryz.sizeOf170
 v46:=Tryz.zeroValue170
 t51:=Tryz.underlying168
 a51:=Tryz.isAgg168
 z51:=Tryz.sizeOf168
 v51:=Tryz.zeroValue168
 t70:=Tryz.underlying160
 a70:=Tryz.isAgg160
 z70:=Tryz.sizeOf160
 v70:=Tryz.zeroValue160
 t72:=Tryz.underlying162
 a72:=Tryz.isAgg162
 z72:=Tryz.sizeOf162
 v72:=Tryz.zeroValue162
 t75:=Tryz.underlying153
 a75:=Tryz.isAgg153
 z75:=Tryz.sizeOf153
 v75:=Tryz.zeroValue153
 t76:=Tryz.underlying154
 a76:=Tryz.isAgg154
 z76:=Tryz.sizeOf154
 v76:=Tryz.zeroValue154
 t105:=Tryz.underlying164
 a105:=Tryz.isAgg164
 z105:=Tryz.sizeOf164
 v105:=Tryz.zeroValue164
 t119:=Tryz.underlying191
 a119:=Tryz.isAgg191
 z119:=Tryz.sizeOf191
 t127:=Tryz.underlying180
 a127:=Tryz.isAgg180
 z127:=Tryz.sizeOf180
 v127:=Tryz.zeroValue180
 t138:=Tryz.underlying193
 a138:=Tryz.isAgg193
 z138:=Tryz.sizeOf193
 v138:=Tryz.zeroValue193
 t139:=Tryz.underlying194
 a139:=Tryz.isAgg194
 z139:=Tryz.sizeOf194
 v139:=Tryz.zeroValue194
 t146:=Tryz.underlying204
 a146:=Tryz.isAgg204
 z146:=Tryz.sizeOf204
 v146:=Tryz.zeroValue204
 t164:=Tryz.underlying188
 a164:=Tryz.isAgg188
 z164:=Tryz.sizeOf188
 v164:=Tryz.zeroValue188
 g1:=by kernel_rfl
 g3:=by kernel_rfl
 g4:=by kernel_rfl }
def Tryz.Uf:Builder.Extra Tryz.prog Tryz.We:={
 sizeBuilder:=by kernel_rfl
 liesBuilder:=by kernel_rfl
 t5:=Tryz.underlying5
 a5:=Tryz.isAgg5
 z5:=Tryz.sizeOf5
 v5:=Tryz.zeroValue5
 infoByte:=by kernel_rfl
 cellsByte:=by kernel_rfl
 sizeByte:=by kernel_rfl
 neB5:=by decide }
open Go.RowKit Go.Lib in
def Tryz.strings_Replace(s old new:ByteArray)(n:Int)(m:Int)(w:World)(hs:s.size < 4294967281)(hm:w.cell? ⟨5,0,none⟩=some (.int .i64 m))(h1:1<=old.size)(hlen:s.size+Lib.countB s old*new.size<=140737488355328) :
   Calls Tryz.prog 163 #[.string s,.string old,.string new,.int .i64 n] w λe w' =>
     e=.returned (.string ⟨(Lib.replace s.data.toList old.data.toList new.data.toList n).toArray⟩)/\Below w.heap.size w w':=Any.strings_Replace Tryz.amK Tryz.Uf s old new n m w hs hm h1 hlen
end Go.Proofs
namespace Go.Proofs.YtpbkhogolfegfaaGreatDoor
open AI Go LexS
def GF(s:List UInt8):AV:=.sc (.string ⟨s.toArray⟩)
namespace Hd
def akU:List AV:=(List.range 128).map λi=>.sc (.int .u8 (L3 i:Nat))
def apK:List AV:=Gc.map GF
def int(n:Int):AV:=.sc (.int .i64 n)
def aqC(n:Int):AV:=.sc (.int .u64 n)
def G(mx:Int):Bc:=λg =>
 match Nat.beq g 2 with
 | true=>some [GF [111,114],GF [],GF [],GF [],GF [],GF [],GF [97,110,100],GF [],GF [],GF [],GF [],GF [],GF [],GF [],GF [],GF [],GF [],GF [],GF [61,61],GF [33,61],GF [60],GF [60,61],GF [62],GF [62,61],GF [43],GF [45],GF [],GF [],GF [],GF [],GF [42],GF [47],GF [97,116],GF [],GF [],GF []]
 | false=>match Nat.beq g 1 with
   | true=>some [GF [],GF [101,97,114,110],GF [100,101,100,117,99,116],GF [102,108,111,111,114],GF [105,110,102,111]]
   | false=>match Nat.beq g 12 with
     | true=>some [int 0,int 31,int 59,int 90,int 120,int 151,int 181,int 212,int 243,int 273,int 304,int 334,int 365]
     | false=>match Nat.beq g 3 with
       | true=>some akU
       | false=>match Nat.beq g 0 with
         | true=>some apK
         | false=>match Nat.beq g 5 with
           | true=>some [int mx]
           | false=>match Nat.beq g 4 with
             | true=>some (Lib.pow10Tab.map aqC)
             | false=>none
variable {mx:Int}
def mixed:Tryz.prog.follows .mixedOrders=true:=by kernel_rfl
def YG:∀l:List (List UInt8),BS (l.map GF)=true
 | []=>rfl
 | s::l=>by
   show(true&&BS (l.map GF))=true;rw[YG l];rfl
def jO:∀l:List Nat,BS (l.map λi=>(.sc (.int .u8 (L3 i:Nat)):AV))=true
 | []=>rfl
 | s::l=>by
   show(true&&BS (l.map λi=>(.sc (.int .u8 (L3 i:Nat)):AV)))=true;rw[jO l];rfl
def aG:∀l:List Int,BS (l.map aqC)=true
 | []=>rfl
 | s::l=>by
   show(true&&BS (l.map aqC))=true;rw[aG l];rfl
def Aa(g:Nat)(cs:List AV)(h:G mx g=some cs):BS cs=true:=by
 unfold G at h;split at h;cases h;rfl;split at h;cases h;rfl;split at h;cases h;rfl;split at h;cases h;exact jO _;split at h;cases h;exact YG _;split at h;cases h;rfl;split at h;cases h;exact aG _;cases h
end Hd
end Go.Proofs.YtpbkhogolfegfaaGreatDoor
namespace Go.Proofs.YtpbkhogolfegfaaGreatDoor
open AI Go
namespace Mo
abbrev P:Program:=Tryz.prog
abbrev G(mx:Int):Bc:=Hd.G mx
variable {G0:Bc}
def Zp{i n:Nat}(h:i < n):DM ((i:Nat):Int) ((n:Nat):Int)=true:=by rw[R5];simp;exact h
def iW{i n:Nat}(h:n<=i):DM ((i:Nat):Int) ((n:Nat):Int)=false:=by rw[R5];simp;omega
def FJ{a b:Int}(h:CS a b=true):a=b:=by rw[Qy] at h;simpa using h
def ZR{a b:Int}(h:CS a b=false):a≠b:=by rw[Qy] at h;simpa using h
def aeC{a b:Int}(h:N1 a b=false):b < a:=by rw[Yr] at h;have:=of_decide_eq_false h;omega
def Yx{a b:Int}(h:DM a b=true):a < b:=by rw[R5] at h;exact of_decide_eq_true h
def K2{a b:Int}(h:DM a b=false):b<=a:=by rw[R5] at h;have:=of_decide_eq_false h;omega
def Ag{β:Type}{b:Bool}{t f:Option β}{r:β}{X:Prop}(h1:b=true->t=some r->X)(h2:b=false->f=some r->X):cond b t f=some r->X:=λh=>(aIO h).elim (λx=>h1 x.1 x.2) λx=>h2 x.1 x.2
def Aq{β κ:Type}{m:Option κ}{k:κ->Option β}{r:β}{X:Prop}(h1:∀y,m=some y->k y=some r->X):m.bind k=some r->X:=λh=>(gK h).elim λy x=>h1 y x.1 x.2
def Lz{β:Type}{n:Nat}{x:Option β}{r:β}{X:Prop}(h1:n<=100000000->x=some r->X):MA n x=some r->X:=λh=>h1 (aeL h).1 (aeL h).2
def dS{β:Type}{r:β}{X:Prop}:(none:Option β)=some r->X:=λh=>nomatch h
def IQ{a b:Int}(h:a=b):CS a b=true:=by rw[Qy];simpa using h
def Ku{a b:Int}(h:a≠b):CS a b=false:=by rw[Qy];simpa using h
def Ys{a b:Int}(h:a<=b):N1 a b=true:=by rw[Yr];exact decide_eq_true h
def UH{a b:Int}(h:b < a):N1 a b=false:=by rw[Yr];exact decide_eq_false (by omega)
def GJ{a b:Int}(h:a < b):DM a b=true:=by rw[R5];exact decide_eq_true h
def Hh{a b:Int}(h:b<=a):DM a b=false:=by rw[R5];exact decide_eq_false (by omega)
def OW{a b:ByteArray}(h:B2 a.data.toList b.data.toList=true):a=b:=by
 rw[Tt] at h;exact ByteArray.ext (Array.ext' (eq_of_beq h))
def abJ{a b:ByteArray}(h:B2 a.data.toList b.data.toList=false):a≠b:=λe=>by
 subst e;rw[Tt] at h;simp at h
def fq{n m:Nat}{a:AV}(h:plain a=true):FP n m:=⟨a,a,.plain h⟩
def aDM{n:Nat}{l:List AV}(h:BS l=true):plain (.sl .lost n l)=true:=by simp only[plain,h];rfl
def Wh{n:Nat}{l:List AV}(h:BS l=true):plain (.sl .full n l)=true:=by simp only[plain,h];rfl
def SY{n m r sz k:Nat}{l:List AV}(h:decide (r < m)=true)(t:FC n m l=true):under n m (.sl (.row r sz) k l)=true:=by simp only[under,h,t];rfl
def inC(x:Int):List AV:=[.sc (.int .i64 x)]
def u8C(x:Int):List AV:=[.sc (.int .u8 x)]
def stC(x:ByteArray):List AV:=[.sc (.string x)]
def axL:Q8 inC (rows inC) 1:=⟨λ_=>rfl,λ_=>rfl,λ_=>rfl⟩
def dN:Q8 stC (rows stC) 1:=⟨λ_=>rfl,λ_=>rfl,λ_=>rfl⟩
structure Pc where
 fr:Int
 AH:Int
 MT:Int
def Jb(x:Pc):List AV:=[.sc (.int .i64 x.fr),.sc (.int .i64 x.AH),.sc (.int .i64 x.MT)]
def Rg:Q8 Jb (rows Jb) 3:=⟨λ_=>rfl,λ_=>rfl,λx=>(A1 rfl (A1 rfl (A1 rfl rfl)))⟩
structure Pt where
 fr:Int
 AH:Int
 num:Int
 den:Int
def Xb(x:Pt):List AV:=[.sc (.int .i64 x.fr),.sc (.int .i64 x.AH),.sc (.int .i64 x.num),.sc (.int .i64 x.den)]
def PV:Q8 Xb (rows Xb) 4:=⟨λ_=>rfl,λ_=>rfl,λx=>(A1 rfl (A1 rfl (A1 rfl (A1 rfl rfl))))⟩
structure Fn where
 den:Int
 ps:(List Pc)
def rC(x:Fn):List AV:=[.sc (.int .i64 x.den),.sl .lost x.ps.length (rows Jb x.ps)]
def iR:Q8 rC (rows rC) 2:=⟨λ_=>rfl,λ_=>rfl,λx=>(A1 rfl (A1 (Rg.IA x.ps) rfl))⟩
structure Nd where
 kind:Int
 name:ByteArray
 unit:ByteArray
 n:Int
 fr:Int
 to:Int
 known:Int
 CV:Fn
 kids:(List Nd)
 AH:Int
mutual
def ndK:Nd->List AV
 | ⟨kind,name,unit,n,fr,to,known,CV,kids,AH⟩=>[.sc (.int .i64 kind),.sc (.string name),.sc (.string unit),.sc (.int .i64 n),.sc (.int .i64 fr),.sc (.int .i64 to),.sc (.int .i64 known),.sc (.int .i64 CV.den),.sl .lost CV.ps.length (rows Jb CV.ps),.sl .lost kids.length (BF kids),.sc (.int .i64 AH)]
def BF:List Nd->List AV
 | []=>[]
 | k::ks=>ndK k++BF ks
end
def C8(x:Nd):List AV:=[.sc (.int .i64 x.kind),.sc (.string x.name),.sc (.string x.unit),.sc (.int .i64 x.n),.sc (.int .i64 x.fr),.sc (.int .i64 x.to),.sc (.int .i64 x.known),.sc (.int .i64 x.CV.den),.sl .lost x.CV.ps.length (rows Jb x.CV.ps),.sl .lost x.kids.length (BF x.kids),.sc (.int .i64 x.AH)]
def aeT(x:Nd):ndK x=C8 x:=by cases x;rfl
def sN(l:List Nd):BF l=rows C8 l:=by
 induction l with
 | nil=>rfl
 | cons k ks ih=>rw[I1,BF,ih,aeT]
mutual
def aeU:∀x:Nd,BS (ndK x)=true
 | ⟨kind,name,unit,n,fr,to,known,CV,kids,AH⟩=>by rw[ndK];exact(A1 rfl (A1 rfl (A1 rfl (A1 rfl (A1 rfl (A1 rfl (A1 rfl (A1 rfl (A1 (Rg.IA CV.ps) (A1 (aDM (sO kids)) (A1 rfl rfl)))))))))))
def sO:∀l:List Nd,BS (BF l)=true
 | []=>rfl
 | k::ks=>by rw[BF];exact atB (aeU k) (sO ks)
end
def AD:Q8 C8 BF 11:=⟨sN,λ_=>rfl,λx=>by rw[<- aeT];exact aeU x⟩
structure Ex where
 op:Int
 n:Int
 unit:ByteArray
 CV:Fn
 kids:(List Ex)
mutual
def exK:Ex->List AV
 | ⟨op,n,unit,CV,kids⟩=>[.sc (.int .i64 op),.sc (.int .i64 n),.sc (.string unit),.sc (.int .i64 CV.den),.sl .lost CV.ps.length (rows Jb CV.ps),.sl .lost kids.length (alF kids)]
def alF:List Ex->List AV
 | []=>[]
 | k::ks=>exK k++alF ks
end
mutual
def avG:∀x:Ex,BS (exK x)=true
 | ⟨op,n,unit,CV,kids⟩=>by rw[exK];exact(A1 rfl (A1 rfl (A1 rfl (A1 rfl (A1 (Rg.IA CV.ps) (A1 (aDM (rB kids)) rfl))))))
def rB:∀l:List Ex,BS (alF l)=true
 | []=>rfl
 | k::ks=>by rw[alF];exact atB (avG k) (rB ks)
end
structure Ar where
 number:Int
 line:Int
 aNT:Int
 fr:Int
 to:Int
 known:Int
 wh:(List Ex)
 un:(List Int)
 am:Ex
structure Dc where
 name:ByteArray
 unit:ByteArray
 aNU:Int
structure Co where
 facts:(List Dc)
 lines:(List Dc)
 aNH:(List Ar)
structure Tk where
 kind:Int
 text:ByteArray
 AH:Int
def Gr(x:Tk):List AV:=[.sc (.int .i64 x.kind),.sc (.string x.text),.sc (.int .i64 x.AH)]
def BK:Q8 Gr (rows Gr) 3:=⟨λ_=>rfl,λ_=>rfl,λx=>(A1 rfl (A1 rfl (A1 rfl rfl)))⟩
structure Dg where
 err:Int
 AH:Int
def OI(x:Dg):List AV:=[.sc (.int .i64 x.err),.sc (.int .i64 x.AH)]
def B7:Q8 OI (rows OI) 2:=⟨λ_=>rfl,λ_=>rfl,λx=>(A1 rfl (A1 rfl rfl))⟩
structure Pr where
 Bj:(List Tk)
 J3:Int
 DK:Int
def Rj(x:Pr):List AV:=[.sl .lost x.Bj.length (rows Gr x.Bj),.sc (.int .i64 x.J3),.sc (.int .i64 x.DK)]
def CM:Q8 Rj (rows Rj) 3:=⟨λ_=>rfl,λ_=>rfl,λx=>(A1 (BK.IA x.Bj) (A1 rfl (A1 rfl rfl)))⟩
structure Ps where
 l:(List Tk)
 at_:Int
 end_:Int
 err:Int
 aNB:Int
structure Ck where
 nodes:Int
def Jy(x:Ck):List AV:=[.sc (.int .i64 x.nodes)]
def Rf:Q8 Jy (rows Jy) 1:=⟨λ_=>rfl,λ_=>rfl,λx=>(A1 rfl rfl)⟩
structure Cq where
 src:Nd
 aMZ:(List Dg)
structure Ft where
 aAR:Co
 lines:(Mm Int Int)
 nodes:Int
structure Sc where
 facts:(Mm ByteArray ByteArray)
 lines:(Mm ByteArray ByteArray)
 aaB:(Mm Int ByteArray)
structure Tr where
 aAR:Co
 facts:(Mm ByteArray Int)
 lines:(Mm ByteArray Int)
 aaB:(Mm Int Int)
def u24:P.underlying 24=some (.slice 64):=by kernel_rfl
def s64:(P.info? 64).map (·.size)=some 3:=by kernel_rfl
def i64:(P.info? 64).map (λi=>(i.size,i.bytes,i.zero.map (·.cells.size)))=some (3,24,some 3):=by kernel_rfl
def Wv(own:AI.Own){l:List Pc}{i:Nat}{x:Pc}(h:l[i]?=some x):Dz P 24 (.sl own l.length (rows Jb l)) (.sc (.int .i64 ((i:Nat):Int)))=some (.el (Jb x++rows Jb (l.drop (i+1)))):=Rg.ix u24 s64 own h
def aCQ(own:AI.Own){l:List Pc}{z:Int}{x:Pc}(h:G5 l z=some x):Dz P 24 (.sl own l.length (rows Jb l)) (.sc (.int .i64 z))=some (.el (Jb x++rows Jb (l.drop (z.toNat+1)))):=Rg.ixz u24 s64 own h
def aBD(own:AI.Own)(l m:List Pc){o:AI.Own}{n:Nat}{ns:List AV}(hn:Wn ns (rows Jb m))(nY:n=m.length)(ho:ns.all one=true)(hm:m.length≠0)(hlen:l.length+m.length<=100000000):Cd.ok P G0 (.Zv 24 24 own l.length (rows Jb l) (.sl o n ns) 3 (l++m).length (rows Jb (l++m))):=Rg.Zv u24 u24 i64 (by decide) (by decide) own l m hn nY ho hm hlen
def u27:P.underlying 27=some (.slice 29):=by kernel_rfl
def s29:(P.info? 29).map (·.size)=some 11:=by kernel_rfl
def i29:(P.info? 29).map (λi=>(i.size,i.bytes,i.zero.map (·.cells.size)))=some (11,136,some 11):=by kernel_rfl
def Kp(own:AI.Own){l:List Nd}{i:Nat}{x:Nd}(h:l[i]?=some x):Dz P 27 (.sl own l.length (BF l)) (.sc (.int .i64 ((i:Nat):Int)))=some (.el (C8 x++BF (l.drop (i+1)))):=AD.ix u27 s29 own h
def PQ(own:AI.Own)(l m:List Nd){o:AI.Own}{n:Nat}{ns:List AV}(hn:Wn ns (BF m))(nY:n=m.length)(ho:ns.all one=true)(hm:m.length≠0)(hlen:l.length+m.length<=100000000):Cd.ok P G0 (.Zv 27 27 own l.length (BF l) (.sl o n ns) 11 (l++m).length (BF (l++m))):=AD.Zv u27 u27 i29 (by decide) (by decide) own l m hn nY ho hm hlen
def acD(own:AI.Own)(l m:List Nd){o:AI.Own}{n:Nat}{ns cs:List AV}(e:cs=BF l)(hn:Wn ns (BF m))(nY:n=m.length)(ho:ns.all one=true)(hm:m.length≠0)(hlen:l.length+m.length<=100000000):Cd.ok P G0 (.Zv 27 27 own l.length cs (.sl o n ns) 11 (l++m).length (BF (l++m))):=e▸PQ own l m hn nY ho hm hlen
def aBC(own:AI.Own)(l m:List Nd){o:AI.Own}(hm:¬m.length=0)(hlen:l.length+m.length<=100000000):Cd.ok P G0 (.Zv 27 27 own l.length (BF l) (.sl o m.length (BF m)) 11 (l++m).length (BF (l++m))):=AD.Zv u27 u27 i29 (by decide) (by decide) own l m (Wn.refl _) rfl (AD.auJ (λ_=>rfl) m) hm hlen
def aJE(own:AI.Own)(l m:List Nd){o:AI.Own}(s:AS)(hm:m.length=0)(hlen:l.length+m.length<=100000000):Cd.ok P G0 (.Ws s 27 27 (.sl own l.length (BF l)) (.sl o m.length (BF m)) (.sl own l.length (BF l)) s):=AD.ga u27 u27 i29 (by decide) (by decide) own l m s hm hlen
def u30:P.underlying 30=some (.slice 45):=by kernel_rfl
def s45:(P.info? 45).map (·.size)=some 2:=by kernel_rfl
def i45:(P.info? 45).map (λi=>(i.size,i.bytes,i.zero.map (·.cells.size)))=some (2,16,some 2):=by kernel_rfl
def wB(own:AI.Own){l:List Dg}{i:Nat}{x:Dg}(h:l[i]?=some x):Dz P 30 (.sl own l.length (rows OI l)) (.sc (.int .i64 ((i:Nat):Int)))=some (.el (OI x++rows OI (l.drop (i+1)))):=B7.ix u30 s45 own h
def aBE(own:AI.Own)(l m:List Dg){o:AI.Own}{n:Nat}{ns:List AV}(hn:Wn ns (rows OI m))(nY:n=m.length)(ho:ns.all one=true)(hm:m.length≠0)(hlen:l.length+m.length<=100000000):Cd.ok P G0 (.Zv 30 30 own l.length (rows OI l) (.sl o n ns) 2 (l++m).length (rows OI (l++m))):=B7.Zv u30 u30 i45 (by decide) (by decide) own l m hn nY ho hm hlen
def u38:P.underlying 38=some (.slice 43):=by kernel_rfl
def s43:(P.info? 43).map (·.size)=some 3:=by kernel_rfl
def i43:(P.info? 43).map (λi=>(i.size,i.bytes,i.zero.map (·.cells.size)))=some (3,32,some 3):=by kernel_rfl
def Z2(own:AI.Own){l:List Tk}{z:Int}{x:Tk}(h:G5 l z=some x):Dz P 38 (.sl own l.length (rows Gr l)) (.sc (.int .i64 z))=some (.el (Gr x++rows Gr (l.drop (z.toNat+1)))):=BK.ixz u38 s43 own h
def aBF(own:AI.Own)(l m:List Tk){o:AI.Own}{n:Nat}{ns:List AV}(hn:Wn ns (rows Gr m))(nY:n=m.length)(ho:ns.all one=true)(hm:m.length≠0)(hlen:l.length+m.length<=100000000):Cd.ok P G0 (.Zv 38 38 own l.length (rows Gr l) (.sl o n ns) 3 (l++m).length (rows Gr (l++m))):=BK.Zv u38 u38 i43 (by decide) (by decide) own l m hn nY ho hm hlen
def s5:(P.info? 5).map (·.size)=some 1:=by kernel_rfl
def i5:(P.info? 5).map (λi=>(i.size,i.bytes,i.zero.map (·.cells.size)))=some (1,1,some 1):=by kernel_rfl
def u57:P.underlying 57=some (.slice 9):=by kernel_rfl
def s9:(P.info? 9).map (·.size)=some 1:=by kernel_rfl
def axG(own:AI.Own){l:List ByteArray}{i:Nat}{x:ByteArray}(h:l[i]?=some x):Dz P 57 (.sl own l.length (rows stC l)) (.sc (.int .i64 ((i:Nat):Int)))=some (.el (stC x++rows stC (l.drop (i+1)))):=dN.ix u57 s9 own h
def aqB:P.underlying 174=some (.slice 176):=by kernel_rfl
def aDW:(P.info? 176).map (·.size)=some 4:=by kernel_rfl
def i176:(P.info? 176).map (λi=>(i.size,i.bytes,i.zero.map (·.cells.size)))=some (4,32,some 4):=by kernel_rfl
def aCP(own:AI.Own){l:List Pt}{i:Nat}{x:Pt}(h:l[i]?=some x):Dz P 174 (.sl own l.length (rows Xb l)) (.sc (.int .i64 ((i:Nat):Int)))=some (.el (Xb x++rows Xb (l.drop (i+1)))):=PV.ix aqB aDW own h
def axH(own:AI.Own){l:List Pt}{z:Int}{x:Pt}(h:G5 l z=some x):Dz P 174 (.sl own l.length (rows Xb l)) (.sc (.int .i64 z))=some (.el (Xb x++rows Xb (l.drop (z.toNat+1)))):=PV.ixz aqB aDW own h
def avM(own:AI.Own)(l m:List Pt){o:AI.Own}{n:Nat}{ns:List AV}(hn:Wn ns (rows Xb m))(nY:n=m.length)(ho:ns.all one=true)(hm:m.length≠0)(hlen:l.length+m.length<=100000000):Cd.ok P G0 (.Zv 174 174 own l.length (rows Xb l) (.sl o n ns) 4 (l++m).length (rows Xb (l++m))):=PV.Zv aqB aqB i176 (by decide) (by decide) own l m hn nY ho hm hlen
def s3:(P.info? 3).map (·.size)=some 1:=by kernel_rfl
def i3:(P.info? 3).map (λi=>(i.size,i.bytes,i.zero.map (·.cells.size)))=some (1,8,some 1):=by kernel_rfl
def w64(x:Int):Int:=IntKind.i64.wrap x
def yJ(x y:Int):Int:=IntKind.i64.wrap (x.tdiv y)
def fE(x y:Int):Int:=x.tmod y
def SO(x y:Int):Option Int:=if y=0 then none else some (yJ x y)
def Vl(x y:Int):Option Int:=if y=0 then none else some (fE x y)
def Ov(s:ByteArray)(l h:Int):Option ByteArray:=if 0<=l/\l<=h/\h<=((s.data.toList.length:Nat):Int) then some ⟨((s.data.toList.drop l.toNat).take (h.toNat - l.toNat)).toArray⟩ else none
def ahE{α:Type}(s:List α)(l h:Int):Option (List α):=if 0<=l/\l<=h/\h<=((s.length:Nat):Int) then some ((s.drop l.toNat).take (h.toNat - l.toNat)) else none
def XC(z:Int)(h:0<=z):SK (.sc (.int .i64 z))=some z.toNat:=by unfold SK;simp[h]
def QS{a b c:Int}(h:SO a b=some c)(x y:Operand):Ll P .quo 3 x y (.sc (.int .i64 a)) (.sc (.int .i64 b))=some (.sc (.int .i64 c)):=by
 unfold SO at h;split at h;cases h;rename_i hb;cases h;simp[Ll,S3,U0,eqGuard,binOp,Op.intDiv,hb,AI.pv,ZG,scalar,yJ,Bind.bind,Sem.bind,Pure.pure]
def Xc{a b c:Int}(h:Vl a b=some c)(x y:Operand):Ll P .rem 3 x y (.sc (.int .i64 a)) (.sc (.int .i64 b))=some (.sc (.int .i64 c)):=by
 unfold Vl at h;split at h;cases h;rename_i hb;cases h;simp[Ll,S3,U0,eqGuard,binOp,Op.intDiv,hb,AI.pv,ZG,scalar,fE,Bind.bind,Sem.bind,Pure.pure]
def us9:P.underlying 9=some .string:=by kernel_rfl
def Ww{s:ByteArray}{i:Nat}{c:UInt8}(h:s.data.toList[i]?=some c):Lm P 9 (.sc (.string s)) (.sc (.int .i64 ((i:Nat):Int)))=some (.sc (.int .u8 ((c.toNat:Nat):Int))):=by
 unfold Lm;rw[us9,XC _ (by omega)];simp only[Int.toNat_natCast,h]
def Jk{s:ByteArray}{z:Int}{c:UInt8}(h:G5 s.data.toList z=some c):Lm P 9 (.sc (.string s)) (.sc (.int .i64 z))=some (.sc (.int .u8 ((c.toNat:Nat):Int))):=by
 unfold G5 at h;split at h;rename_i hz;have:=Ww h;rwa[Int.toNat_of_nonneg hz] at this;cases h
def It{s v:ByteArray}{l h:Int}(e:Ov s l h=some v):KN P 9 (.sc (.string s)) (some (.sc (.int .i64 l))) (some (.sc (.int .i64 h))) none=some (.sc (.string v)):=by
 unfold Ov at e;split at e;rename_i hc;cases e;unfold KN;rw[us9];simp only[MV,XC l hc.1,XC h (by omega)];rw[if_pos ⟨by omega,by omega⟩];cases e
def aED{s v:ByteArray}{h:Int}(e:Ov s 0 h=some v):KN P 9 (.sc (.string s)) none (some (.sc (.int .i64 h))) none=some (.sc (.string v)):=by
 unfold Ov at e;split at e;rename_i hc;cases e;unfold KN;rw[us9];simp only[MV,XC h (by omega)];rw[if_pos ⟨by omega,by omega⟩];simp;cases e
def apJ(l h:Nat){s:List Nd}(h1:l<=h)(h2:h<=s.length)(lo hi:Option AV)(e1:MV 0 lo=some l)(e2:MV s.length hi=some h):KN P 27 (.sl .lost s.length (BF s)) lo hi none=some (.sl .lost ((s.drop l).take (h - l)).length (BF ((s.drop l).take (h - l)))):=AD.sub u27 s29 l h h1 h2 lo hi e1 e2
def tT{s v:List Nd}{l:Int}(e:ahE s l ((s.length:Nat):Int)=some v):KN P 27 (.sl .lost s.length (BF s)) (some (.sc (.int .i64 l))) (none) none=some (.sl .lost v.length (BF v)):=by
 unfold ahE at e;split at e;rename_i hc;cases e;exact apJ _ _ (by omega) (by omega) _ _ (XC l hc.1) rfl;cases e
def PA(x y:Pc):Bool:=x.fr == y.fr&&(x.AH == y.AH&&(x.MT == y.MT))
def pP(x y:Pc):Zr [.int .i64 x.fr,.int .i64 x.AH,.int .i64 x.MT] [.int .i64 y.fr,.int .i64 y.AH,.int .i64 y.MT]=some (PA x y):=by
 simp only[Zr,fEq,PA,if_true,Option.bind_some];cases (x.fr == y.fr)<;>cases (x.AH == y.AH)<;>cases (x.MT == y.MT)<;>rfl
def avJ:Flat P 64 [1,1,1]:=⟨by kernel_rfl,by kernel_rfl,by kernel_rfl,by kernel_rfl,by kernel_rfl,by kernel_rfl⟩
def Z9{x y:Pc}{b:Bool}(h:PA x y=b)(ox oy:Operand):Ll P .neq 64 ox oy (.agg (Jb x)) (.agg (Jb y))=some (.sc (.bool (!b))):=by
 subst h;exact(avJ.bin (us:=[.int .i64 x.fr,.int .i64 x.AH,.int .i64 x.MT]) (vs:=[.int .i64 y.fr,.int .i64 y.AH,.int .i64 y.MT]) ⟨.inl ⟨_,rfl,rfl⟩,⟨.inl ⟨_,rfl,rfl⟩,⟨.inl ⟨_,rfl,rfl⟩,trivial⟩⟩⟩ ⟨.inl ⟨_,rfl,rfl⟩,⟨.inl ⟨_,rfl,rfl⟩,⟨.inl ⟨_,rfl,rfl⟩,trivial⟩⟩⟩ (pP x y) ox oy).2
def QW(x y:Dg):Bool:=x.err == y.err&&(x.AH == y.AH)
def YS(x y:Dg):Zr [.int .i64 x.err,.int .i64 x.AH] [.int .i64 y.err,.int .i64 y.AH]=some (QW x y):=by
 simp only[Zr,fEq,QW,if_true,Option.bind_some];cases (x.err == y.err)<;>cases (x.AH == y.AH)<;>rfl
def abU:Flat P 45 [1,1]:=⟨by kernel_rfl,by kernel_rfl,by kernel_rfl,by kernel_rfl,by kernel_rfl,by kernel_rfl⟩
def asC{x y:Dg}{b:Bool}(h:QW x y=b)(ox oy:Operand):Ll P .eql 45 ox oy (.agg (OI x)) (.agg (OI y))=some (.sc (.bool (b))):=by
 subst h;exact(abU.bin (us:=[.int .i64 x.err,.int .i64 x.AH]) (vs:=[.int .i64 y.err,.int .i64 y.AH]) ⟨.inl ⟨_,rfl,rfl⟩,⟨.inl ⟨_,rfl,rfl⟩,trivial⟩⟩ ⟨.inl ⟨_,rfl,rfl⟩,⟨.inl ⟨_,rfl,rfl⟩,trivial⟩⟩ (YS x y) ox oy).1
def asW{x y:Dg}{b:Bool}(h:QW x y=b)(ox oy:Operand):Ll P .neq 45 ox oy (.agg (OI x)) (.agg (OI y))=some (.sc (.bool (!b))):=by
 subst h;exact(abU.bin (us:=[.int .i64 x.err,.int .i64 x.AH]) (vs:=[.int .i64 y.err,.int .i64 y.AH]) ⟨.inl ⟨_,rfl,rfl⟩,⟨.inl ⟨_,rfl,rfl⟩,trivial⟩⟩ ⟨.inl ⟨_,rfl,rfl⟩,⟨.inl ⟨_,rfl,rfl⟩,trivial⟩⟩ (YS x y) ox oy).2
def beforeL:List Int:=[0,31,59,90,120,151,181,212,243,273,304,334,365]
def oJ{z:Int}{x:Int}(h:G5 beforeL z=some x):Dz P 203 (.el (rows inC beforeL)) (.sc (.int .i64 z))=some (.el (inC x++rows inC (beforeL.drop (z.toNat+1)))):=axL.ixa (elem:=3) (len:=13) (by kernel_rfl) (by kernel_rfl) rfl h
def bM{a b:Int}{q:Bool}(h:some (CS a b)=some q)(x y:Operand):Ll P .eql 3 x y (.sc (.int .i64 a)) (.sc (.int .i64 b))=some (.sc (.bool q)):=by
 rw[<- NN];cases h
 kernel_rfl
def aFD{a b:ByteArray}{q:Bool}(h:some (B2 a.data.toList b.data.toList)=some q)(x y:Operand):Ll P .eql 9 x y (.sc (.string a)) (.sc (.string b))=some (.sc (.bool q)):=by
 rw[<- NN];cases h
 kernel_rfl
def aFE{a b:Int}{q:Bool}(h:some (DM b a)=some q)(x y:Operand):Ll P .gtr 3 x y (.sc (.int .i64 a)) (.sc (.int .i64 b))=some (.sc (.bool q)):=by
 rw[<- NN];cases h
 kernel_rfl
def aFF{a b:Int}{q:Bool}(h:some (N1 a b)=some q)(x y:Operand):Ll P .leq 3 x y (.sc (.int .i64 a)) (.sc (.int .i64 b))=some (.sc (.bool q)):=by
 rw[<- NN];cases h
 kernel_rfl
def atX{a b:Int}{q:Bool}(h:some (DM a b)=some q)(x y:Operand):Ll P .lss 3 x y (.sc (.int .i64 a)) (.sc (.int .i64 b))=some (.sc (.bool q)):=by
 rw[<- NN];cases h
 kernel_rfl
def H3:ByteArray:=⟨#[33,61]⟩
def TN:ByteArray:=⟨#[40]⟩
def VC:ByteArray:=⟨#[41]⟩
def Px:ByteArray:=⟨#[42]⟩
def Oi:ByteArray:=⟨#[43]⟩
def TO:ByteArray:=⟨#[44]⟩
def Lh:ByteArray:=⟨#[45]⟩
def ayO:ByteArray:=⟨#[46]⟩
def EC:ByteArray:=⟨#[47]⟩
def pG:ByteArray:=⟨#[47,47]⟩
def UO:ByteArray:=⟨#[58]⟩
def Rz:ByteArray:=⟨#[59]⟩
def J9:ByteArray:=⟨#[60]⟩
def G8:ByteArray:=⟨#[60,61]⟩
def GO:ByteArray:=⟨#[61,61]⟩
def JB:ByteArray:=⟨#[62]⟩
def FQ:ByteArray:=⟨#[62,61]⟩
def aS:ByteArray:=⟨#[97]⟩
def MP:ByteArray:=⟨#[97,32,60,32,98,32,60,32,99]⟩
def E3:ByteArray:=⟨#[97,32,62,32,51,32,97,110,100,32,110,111,116,32,98,32,61,61,32,99]⟩
def Qq:ByteArray:=⟨#[97,109,111,117,110,116]⟩
def PJ:ByteArray:=⟨#[97,110,100]⟩
def cA:ByteArray:=⟨#[97,114,116]⟩
def He:ByteArray:=⟨#[97,114,116,105,99,108,101]⟩
def gI:ByteArray:=⟨#[97,116]⟩
def bS:ByteArray:=⟨#[98]⟩
def cS:ByteArray:=⟨#[99]⟩
def cJ:ByteArray:=⟨#[100,97,121]⟩
def Me:ByteArray:=⟨#[100,101,100,117,99,116]⟩
def S6:ByteArray:=⟨#[101,97,114,110]⟩
def RX:ByteArray:=⟨#[102,97,99,116]⟩
def Ep:ByteArray:=⟨#[102,97,99,116,32,114,97,116,101,32,58,32,69,85,82,32,108,105,110,101,32,120]⟩
def Tu:ByteArray:=⟨#[102,97,108,115,101]⟩
def Pg:ByteArray:=⟨#[102,108,111,111,114]⟩
def abV:ByteArray:=⟨#[102,111,114]⟩
def rG:ByteArray:=⟨#[102,114,111,109]⟩
def FU:ByteArray:=⟨#[103,114,101,97,116,101,115,116]⟩
def ED:ByteArray:=⟨#[104,111,117,114,115,32,97,116,32,114,97,116,101,32,43,32,97,114,116,32,51]⟩
def Ta:ByteArray:=⟨#[105,110,102,111]⟩
def Vr:ByteArray:=⟨#[107,110,111,119,110]⟩
def KS:ByteArray:=⟨#[108,101,97,115,116]⟩
def N2:ByteArray:=⟨#[108,105,110,101]⟩
def Av:ByteArray:=⟨#[108,105,110,101,32,112,97,121,32,58,32,69,85,82,32,101,97,114,110,59,32,97,114,116,105,99,108,101,32,51,32,102,111,114,32,112,97,121,32,114,97,110,107,32,49,32,102,114,111,109,32,50,48,50,52,45,48,49,45,48,49,32,107,110,111,119,110,32,50,48,50,52,45,48,49,45,48,49,32,123,32,97,109,111,117,110,116,32,69,85,82,32,49,46,53,48,59,32,125]⟩
def amY:ByteArray:=⟨#[109,105,110]⟩
def JN:ByteArray:=⟨#[109,105,110,117,116,101,115]⟩
def QG:ByteArray:=⟨#[109,111,110,116,104]⟩
def Vy:ByteArray:=⟨#[110,111,116]⟩
def EF:ByteArray:=⟨#[110,117,109,98,101,114]⟩
def jH:ByteArray:=⟨#[111,114]⟩
def tB:ByteArray:=⟨#[114,97,110,107]⟩
def QZ:ByteArray:=⟨#[116,97,98,108,101]⟩
def BI:ByteArray:=⟨#[116,97,98,108,101,40,120,59,32,48,32,58,32,48,46,48,48,32,43,32,49,47,49,48,44,32,53,48,48,46,48,48,32,58,32,53,48,46,48,48,32,43,32,49,47,52,41]⟩
def toS:ByteArray:=⟨#[116,111]⟩
def Y5:ByteArray:=⟨#[116,114,117,101]⟩
def G9:ByteArray:=⟨#[116,114,117,116,104]⟩
def SH:ByteArray:=⟨#[117,110,108,101,115,115]⟩
def LP:ByteArray:=⟨#[119,101,101,107,100,97,121]⟩
def bK:ByteArray:=⟨#[119,104,101,110]⟩
def Vd:ByteArray:=⟨#[121,101,97,114]⟩
def eA:ByteArray:=⟨#[123]⟩
def ZF:ByteArray:=⟨#[125]⟩
end Mo
end Go.Proofs.YtpbkhogolfegfaaGreatDoor
namespace Go.Proofs.YtpbkhogolfegfaaGreatDoor
open AI Go
namespace Mo
set_option maxRecDepth 100000
set_option maxHeartbeats 4000000
def ayE(x:Pc):Prop:=(-9223372036854775808<=x.fr/\x.fr<=9223372036854775807)/\(-9223372036854775808<=x.AH/\x.AH<=9223372036854775807)/\(-9223372036854775808<=x.MT/\x.MT<=9223372036854775807)
def oY(x:Fn):Prop:=x.ps.length<=9223372036854775807/\(∀y∈x.ps,ayE y)
mutual
def KT:Nd->Prop
 | ⟨kind,name,unit,n,fr,to,known,CV,kids,AH⟩=>oY CV/\kids.length<=9223372036854775807/\jF kids
def jF:List Nd->Prop
 | []=>True
 | k::ks=>KT k/\jF ks
end
def aC{l:List Nd}:jF l↔∀k∈l,KT k:=by
 induction l with
 | nil=>simp[jF]
 | cons k l ih=>simp[jF,ih]
def P0(x:Nd):KT x↔oY x.CV/\x.kids.length<=9223372036854775807/\∀y∈x.kids,KT y:=by
 cases x;rw[KT,aC]
end Mo
end Go.Proofs.YtpbkhogolfegfaaGreatDoor
