/- Part of a proof: see the last text. -/
import Derived.Test.YtpbkhogolfegfaaGreatDoorPgm
import Derived.Shelf.Strings.Builder1
import Derived.Shelf.Strings.Builder2
import Derived.Shelf.Strconv.Atoi
import Derived.Shelf.Strconv.Itoa0
import Derived.Shelf.Strconv.Itoa1
import Derived.Shelf.LaysM
import Derived.Shelf.Strconv.Itoa2
import Derived.Shelf.Strconv.Itoa3
import Derived.Shelf.Strconv.AtoiErrFast
import Derived.Shelf.Strconv.ParseIntEmpty
import Derived.Shelf.Strconv.AtoiFail
import Derived.Shelf.Strconv.Clone
import Derived.Shelf.Strconv.SyntaxError
import Derived.Shelf.LaysC
import Derived.Shelf.Strconv.ToError
import Derived.Shelf.Strconv.Lower
import Derived.Shelf.Strconv.ParseUint10
import Derived.Shelf.Strconv.ParseUint10Empty
import Derived.Shelf.Strconv.ParseUint10Any
import Derived.Shelf.Strconv.ParseInt10
import Derived.Shelf.Strconv.AtoiLong
import Derived.Shelf.Strconv.AtoiInnerAll
import Derived.Shelf.Strconv.RangeError
import Derived.Shelf.Strconv.ToErrorRange
import Derived.Shelf.Strconv.AtoiAll
import Derived.Shelf.Strings.Search1
import Derived.Shelf.Strings.Search2
import Derived.Shelf.Strings.Search3
import Derived.Shelf.Strings.Count
import Derived.Shelf.Strings.Shaped
import Derived.Shelf.Strings.Split
import Derived.Shelf.Strings.Replace
import Derived.Shelf.Unicode.DecodeSlow
import Derived.Test.YtpbkhogolfegfaaGreatDoorProg
import Derived.KernelRfl
set_option linter.unusedVariables false
set_option linter.unusedSimpArgs false
set_option linter.defProp false
noncomputable section
namespace Go.Proofs
open Go.Shelf
def Tryz.kG:Go.Shelf.Ren:=⟨λ| 172=>173 | 244=>193 | 245=>194 | 247=>207 | 279=>208 | 280=>209 | 281=>210 | 282=>211 | 287=>224 | 316=>225 | 171=>64 | 205=>226 | 321=>235 | 322=>236 | 243=>114 | 246=>149 | 283=>166 | 284=>167 | 285=>168 | 286=>169 | 129=>189 | 317=>188 | 318=>190 | 319=>191 | 320=>192 | 337=>205 | 338=>206 | n=>n,λ| 9=>9 | 3=>3 | 75=>153 | 76=>154 | 4=>4 | 5=>5 | 167=>182 | 37=>52 | 0=>0 | 85=>183 | 2=>2 | 168=>185 | 53=>146 | 175=>197 | 46=>170 | 210=>201 | 127=>180 | 145=>210 | 143=>208 | 21=>21 | 171=>145 | 173=>149 | 212=>167 | 51=>168 | 20=>20 | 213=>169 | 232=>195 | 233=>196 | 80=>108 | n=>n,λ| 15=>10 | 16=>11 | 17=>4 | 18=>8 | 19=>9 | n=>n⟩
def Tryz.apA:Go.Proofs.Lays.n172 Tryz.prog Tryz.kG:={
 mixed:=by kernel_rfl
 f129:=Tryz.func189.trans (congrArg some (by kernel_rfl))
 f171:=Tryz.func64.trans (congrArg some (by kernel_rfl))
 f172:=Tryz.func173.trans (congrArg some (by kernel_rfl))
 f205:=Tryz.func226.trans (congrArg some (by kernel_rfl))
 f243:=Tryz.func114.trans (congrArg some (by kernel_rfl))
 f244:=Tryz.func193.trans (congrArg some (by kernel_rfl))
 f245:=Tryz.func194.trans (congrArg some (by kernel_rfl))
 f246:=Tryz.func149.trans (congrArg some (by kernel_rfl))
 f247:=Tryz.func207.trans (congrArg some (by kernel_rfl))
 f279:=Tryz.func208.trans (congrArg some (by kernel_rfl))
 f280:=Tryz.func209.trans (congrArg some (by kernel_rfl))
 f281:=Tryz.func210.trans (congrArg some (by kernel_rfl))
 f282:=Tryz.func211.trans (congrArg some (by kernel_rfl))
 f283:=Tryz.func166.trans (congrArg some (by kernel_rfl))
 f284:=Tryz.func167.trans (congrArg some (by kernel_rfl))
 f285:=Tryz.func168.trans (congrArg some (by kernel_rfl))
 f286:=Tryz.func169.trans (congrArg some (by kernel_rfl))
 f287:=Tryz.func224.trans (congrArg some (by kernel_rfl))
 f316:=Tryz.func225.trans (congrArg some (by kernel_rfl))
 f317:=Tryz.func188.trans (congrArg some (by kernel_rfl))
 f318:=Tryz.func190.trans (congrArg some (by kernel_rfl))
 f319:=Tryz.func191.trans (congrArg some (by kernel_rfl))
 f320:=Tryz.func192.trans (congrArg some (by kernel_rfl))
 f321:=Tryz.func235.trans (congrArg some (by kernel_rfl))
 f322:=Tryz.func236.trans (congrArg some (by kernel_rfl))
 f337:=Tryz.func205.trans (congrArg some (by kernel_rfl))
 f338:=Tryz.func206.trans (congrArg some (by kernel_rfl))
 t0:=Tryz.underlying0
 a0:=Tryz.isAgg0
 z0:=Tryz.sizeOf0
 v0:=Tryz.zeroValue0
 t2:=Tryz.underlying2
 a2:=Tryz.isAgg2
 z2:=Tryz.sizeOf2
 v2:=Tryz.zeroValue2
 t3:=Tryz.underlying3
 a3:=Tryz.isAgg3
 z3:=Tryz.sizeOf3
 v3:=Tryz.zeroValue3
 t4:=Tryz.underlying4
 a4:=Tryz.isAgg4
 z4:=Tryz.sizeOf4
 v4:=Tryz.zeroValue4
 t5:=Tryz.underlying5
 a5:=Tryz.isAgg5
 z5:=Tryz.sizeOf5
 v5:=Tryz.zeroValue5
 t9:=Tryz.underlying9
 a9:=Tryz.isAgg9
 z9:=Tryz.sizeOf9
 v9:=Tryz.zeroValue9
 t20:=Tryz.underlying20
 a20:=Tryz.isAgg20
 z20:=Tryz.sizeOf20
 v20:=Tryz.zeroValue20
 t21:=Tryz.underlying21
 a21:=Tryz.isAgg21
 z21:=Tryz.sizeOf21
 v21:=Tryz.zeroValue21
 t37:=Tryz.underlying52
 a37:=Tryz.isAgg52
 z37:=Tryz.sizeOf52
 v37:=Tryz.zeroValue52
 t46:=Tryz.underlying170
 a46:=Tryz.isAgg170
 z46:=Tryz.sizeOf170
 v46:=Tryz.zeroValue170
 t51:=Tryz.underlying168
 a51:=Tryz.isAgg168
 z51:=Tryz.sizeOf168
 v51:=Tryz.zeroValue168
 t53:=Tryz.underlying146
 a53:=Tryz.isAgg146
 z53:=Tryz.sizeOf146
 v53:=Tryz.zeroValue146
 t75:=Tryz.underlying153
 a75:=Tryz.isAgg153
 z75:=Tryz.sizeOf153
 v75:=Tryz.zeroValue153
 t76:=Tryz.underlying154
 a76:=Tryz.isAgg154
 z76:=Tryz.sizeOf154
 v76:=Tryz.zeroValue154
 t85:=Tryz.underlying183
 a85:=Tryz.isAgg183
 z85:=Tryz.sizeOf183
 v85:=Tryz.zeroValue183
 t127:=Tryz.underlying180
 a127:=Tryz.isAgg180
 z127:=Tryz.sizeOf180
 v127:=Tryz.zeroValue180
 t143:=Tryz.underlying208
 a143:=Tryz.isAgg208
 z143:=Tryz.sizeOf208
 v143:=Tryz.zeroValue208
 t145:=Tryz.underlying210
 a145:=Tryz.isAgg210
 z145:=Tryz.sizeOf210
 v145:=Tryz.zeroValue210
 t167:=Tryz.underlying182
 a167:=Tryz.isAgg182
 z167:=Tryz.sizeOf182
 v167:=Tryz.zeroValue182
 t168:=Tryz.underlying185
 a168:=Tryz.isAgg185
 z168:=Tryz.sizeOf185
 v168:=Tryz.zeroValue185
 t171:=Tryz.underlying145
 a171:=Tryz.isAgg145
 z171:=Tryz.sizeOf145
 v171:=Tryz.zeroValue145
 t173:=Tryz.underlying149
 a173:=Tryz.isAgg149
 z173:=Tryz.sizeOf149
 v173:=Tryz.zeroValue149
 t175:=Tryz.underlying197
 a175:=Tryz.isAgg197
 z175:=Tryz.sizeOf197
 v175:=Tryz.zeroValue197
 t210:=Tryz.underlying201
 a210:=Tryz.isAgg201
 z210:=Tryz.sizeOf201
 v210:=Tryz.zeroValue201
 t212:=Tryz.underlying167
 a212:=Tryz.isAgg167
 z212:=Tryz.sizeOf167
 v212:=Tryz.zeroValue167
 t213:=Tryz.underlying169
 a213:=Tryz.isAgg169
 z213:=Tryz.sizeOf169
 t232:=Tryz.underlying195
 a232:=Tryz.isAgg195
 z232:=Tryz.sizeOf195
 v232:=Tryz.zeroValue195
 t233:=Tryz.underlying196
 a233:=Tryz.isAgg196
 z233:=Tryz.sizeOf196
 v233:=Tryz.zeroValue196
 g15:=by kernel_rfl
 g16:=by kernel_rfl
 g17:=by kernel_rfl
 g18:=by kernel_rfl
 g19:=by kernel_rfl }
open Go.RowKit in
def Tryz.strconv_Atoi(s:ByteArray)(n:Int)(hl:s.size<=18)(h:Lib.atoi s.data.toList=some n)(w:World) :
   Calls Tryz.prog 173 #[.string s] w λe w'=>e=.returned (.tuple #[.int .i64 n,.nilIface])/\∃t,w'=Lib.bytesWorld w 5 t:=Any.strconv_Atoi Tryz.apA s n hl h w
def Tryz.WA:Go.Shelf.Ren:=⟨λ| 154=>163 | 138=>180 | 165=>181 | 143=>182 | 166=>183 | 197=>184 | 169=>185 | 195=>198 | 218=>199 | 240=>200 | 241=>201 | 219=>202 | 260=>203 | 276=>217 | 277=>218 | 217=>219 | 225=>220 | 224=>221 | 267=>222 | 266=>230 | 314=>231 | n=>n,λ| 9=>9 | 3=>3 | 4=>4 | 72=>162 | 0=>0 | 76=>154 | 105=>164 | 21=>21 | 5=>5 | 70=>160 | 20=>20 | 37=>52 | 75=>153 | 127=>180 | 164=>188 | 46=>170 | 119=>191 | 139=>194 | 138=>193 | 146=>204 | 51=>168 | 80=>108 | n=>n,λ| 1=>5 | 3=>6 | 4=>7 | n=>n⟩
def Tryz.aoZ:Go.Proofs.Lays.n154 Tryz.prog Tryz.WA:={
 mixed:=by kernel_rfl
 f138:=Tryz.func180.trans (congrArg some (by kernel_rfl))
 f143:=Tryz.func182.trans (congrArg some (by kernel_rfl))
 f154:=Tryz.func163.trans (congrArg some (by kernel_rfl))
 f165:=Tryz.func181.trans (congrArg some (by kernel_rfl))
 f166:=Tryz.func183.trans (congrArg some (by kernel_rfl))
 f169:=Tryz.func185.trans (congrArg some (by kernel_rfl))
 f195:=Tryz.func198.trans (congrArg some (by kernel_rfl))
 f197:=Tryz.func184.trans (congrArg some (by kernel_rfl))
 f217:=Tryz.func219.trans (congrArg some (by kernel_rfl))
 f218:=Tryz.func199.trans (congrArg some (by kernel_rfl))
 f219:=Tryz.func202.trans (congrArg some (by kernel_rfl))
 f224:=Tryz.func221.trans (congrArg some (by kernel_rfl))
 f225:=Tryz.func220.trans (congrArg some (by kernel_rfl))
 f240:=Tryz.func200.trans (congrArg some (by kernel_rfl))
 f241:=Tryz.func201.trans (congrArg some (by kernel_rfl))
 f260:=Tryz.func203.trans (congrArg some (by kernel_rfl))
 f266:=Tryz.func230.trans (congrArg some (by kernel_rfl))
 f267:=Tryz.func222.trans (congrArg some (by kernel_rfl))
 f276:=Tryz.func217.trans (congrArg some (by kernel_rfl))
 f277:=Tryz.func218.trans (congrArg some (by kernel_rfl))
 f314:=Tryz.func231.trans (congrArg some (by kernel_rfl))
 t0:=Tryz.underlying0
 a0:=Tryz.isAgg0
 z0:=Tryz.sizeOf0
 v0:=Tryz.zeroValue0
 t3:=Tryz.underlying3
 a3:=Tryz.isAgg3
 z3:=Tryz.sizeOf3
 v3:=Tryz.zeroValue3
 t4:=Tryz.underlying4
 a4:=Tryz.isAgg4
 z4:=Tryz.sizeOf4
 v4:=Tryz.zeroValue4
 t5:=Tryz.underlying5
 a5:=Tryz.isAgg5
 z5:=Tryz.sizeOf5
 v5:=Tryz.zeroValue5
 t9:=Tryz.underlying9
 a9:=Tryz.isAgg9
 z9:=Tryz.sizeOf9
 v9:=Tryz.zeroValue9
 t20:=Tryz.underlying20
 a20:=Tryz.isAgg20
 z20:=Tryz.sizeOf20
 v20:=Tryz.zeroValue20
 t21:=Tryz.underlying21
 a21:=Tryz.isAgg21
 z21:=Tryz.sizeOf21
 v21:=Tryz.zeroValue21
 t37:=Tryz.underlying52
 a37:=Tryz.isAgg52
 z37:=Tryz.sizeOf52
 v37:=Tryz.zeroValue52
 t46:=Tryz.underlying170
 a46:=Tryz.isAgg170
 z46:=Tryz.sizeOf170
 v46:=Tryz.zeroValue170
 t51:=Tryz.underlying168
 a51:=Tryz.isAgg168
 z51:=Tryz.sizeOf168
 v51:=Tryz.zeroValue168
 t70:=Tryz.underlying160
 a70:=Tryz.isAgg160
 z70:=Tryz.sizeOf160
 v70:=Tryz.zeroValue160
 t72:=Tryz.underlying162
 a72:=Tryz.isAgg162
 z72:=Tryz.sizeOf162
 v72:=Tryz.zeroValue162
 t75:=Tryz.underlying153
 a75:=Tryz.isAgg153
 z75:=Tryz.sizeOf153
 v75:=Tryz.zeroValue153
 t76:=Tryz.underlying154
 a76:=Tryz.isAgg154
 z76:=Tryz.sizeOf154
 v76:=Tryz.zeroValue154
 t105:=Tryz.underlying164
 a105:=Tryz.isAgg164
 z105:=Tryz.sizeOf164
 v105:=Tryz.zeroValue164
 t119:=Tryz.underlying191
 a119:=Tryz.isAgg191
 z119:=Tryz.sizeOf191
 t127:=Tryz.underlying180
 a127:=Tryz.isAgg180
 z127:=Tryz.sizeOf180
 v127:=Tryz.zeroValue180
 t138:=Tryz.underlying193
 a138:=Tryz.isAgg193
 z138:=Tryz.sizeOf193
 v138:=Tryz.zeroValue193
 t139:=Tryz.underlying194
 a139:=Tryz.isAgg194
 z139:=Tryz.sizeOf194
 v139:=Tryz.zeroValue194
 t146:=Tryz.underlying204
 a146:=Tryz.isAgg204
 z146:=Tryz.sizeOf204
 v146:=Tryz.zeroValue204
 t164:=Tryz.underlying188
 a164:=Tryz.isAgg188
 z164:=Tryz.sizeOf188
 v164:=Tryz.zeroValue188
 g1:=by kernel_rfl
 g3:=by kernel_rfl
 g4:=by kernel_rfl }
def Tryz.UG:Builder.Extra Tryz.prog Tryz.WA:={
 sizeBuilder:=by kernel_rfl
 liesBuilder:=by kernel_rfl
 t5:=Tryz.underlying5
 a5:=Tryz.isAgg5
 z5:=Tryz.sizeOf5
 v5:=Tryz.zeroValue5
 infoByte:=by kernel_rfl
 cellsByte:=by kernel_rfl
 sizeByte:=by kernel_rfl
 neB5:=by decide }
open Go.RowKit Go.Lib in
def Tryz.strings_Replace(s old new:ByteArray)(n:Int)(m:Int)(w:World)(hs:s.size < 4294967281)(hm:w.cell? ⟨5,0,none⟩=some (.int .i64 m))(h1:1<=old.size)(hlen:s.size+Lib.countB s old*new.size<=140737488355328) :
   Calls Tryz.prog 163 #[.string s,.string old,.string new,.int .i64 n] w λe w' =>
     e=.returned (.string ⟨(Lib.replace s.data.toList old.data.toList new.data.toList n).toArray⟩)/\Below w.heap.size w w':=Any.strings_Replace Tryz.aoZ Tryz.UG s old new n m w hs hm h1 hlen
end Go.Proofs
namespace Go.Proofs.YtpbkhogolfegfaaGreatDoor
open AI Go LexS
def GL(s:List UInt8):AV:=.sc (.string ⟨s.toArray⟩)
namespace Hd
def anF:List AV:=(List.range 128).map λi=>.sc (.int .u8 (K1 i:Nat))
def asE:List AV:=Gk.map GL
def int(n:Int):AV:=.sc (.int .i64 n)
def asV(n:Int):AV:=.sc (.int .u64 n)
def G(mx:Int):Bc:=λg =>
 match Nat.beq g 2 with
 | true=>some [GL [111,114],GL [],GL [],GL [],GL [],GL [],GL [97,110,100],GL [],GL [],GL [],GL [],GL [],GL [],GL [],GL [],GL [],GL [],GL [],GL [61,61],GL [33,61],GL [60],GL [60,61],GL [62],GL [62,61],GL [43],GL [45],GL [],GL [],GL [],GL [],GL [42],GL [47],GL [97,116],GL [],GL [],GL []]
 | false=>match Nat.beq g 1 with
   | true=>some [GL [],GL [101,97,114,110],GL [100,101,100,117,99,116],GL [102,108,111,111,114],GL [105,110,102,111]]
   | false=>match Nat.beq g 12 with
     | true=>some [int 0,int 31,int 59,int 90,int 120,int 151,int 181,int 212,int 243,int 273,int 304,int 334,int 365]
     | false=>match Nat.beq g 3 with
       | true=>some anF
       | false=>match Nat.beq g 0 with
         | true=>some asE
         | false=>match Nat.beq g 5 with
           | true=>some [int mx]
           | false=>match Nat.beq g 4 with
             | true=>some (Lib.pow10Tab.map asV)
             | false=>none
variable {mx:Int}
def mixed:Tryz.prog.follows .mixedOrders=true:=by kernel_rfl
def Y3:∀l:List (List UInt8),BE (l.map GL)=true
 | []=>rfl
 | s::l=>by
   show(true&&BE (l.map GL))=true;rw[Y3 l];rfl
def lB:∀l:List Nat,BE (l.map λi=>(.sc (.int .u8 (K1 i:Nat)):AV))=true
 | []=>rfl
 | s::l=>by
   show(true&&BE (l.map λi=>(.sc (.int .u8 (K1 i:Nat)):AV)))=true;rw[lB l];rfl
def bK:∀l:List Int,BE (l.map asV)=true
 | []=>rfl
 | s::l=>by
   show(true&&BE (l.map asV))=true;rw[bK l];rfl
def Aa(g:Nat)(cs:List AV)(h:G mx g=some cs):BE cs=true:=by
 unfold G at h;split at h;cases h;rfl;split at h;cases h;rfl;split at h;cases h;rfl;split at h;cases h;exact lB _;split at h;cases h;exact Y3 _;split at h;cases h;rfl;split at h;cases h;exact bK _;cases h
end Hd
end Go.Proofs.YtpbkhogolfegfaaGreatDoor
namespace Go.Proofs.YtpbkhogolfegfaaGreatDoor
open AI Go
namespace Mo
abbrev P:Program:=Tryz.prog
abbrev G(mx:Int):Bc:=Hd.G mx
variable {G0:Bc}
def WD{i n:Nat}(h:i < n):Ev ((i:Nat):Int) ((n:Nat):Int)=true:=by rw[Si];simp;exact h
def fA{i n:Nat}(h:n<=i):Ev ((i:Nat):Int) ((n:Nat):Int)=false:=by rw[Si];simp;omega
def FQ{a b:Int}(h:Dh a b=true):a=b:=by rw[QL] at h;simpa using h
def Wo{a b:Int}(h:Dh a b=false):a≠b:=by rw[QL] at h;simpa using h
def afW{a b:Int}(h:NS a b=false):b < a:=by rw[YM] at h;have:=of_decide_eq_false h;omega
def YS{a b:Int}(h:Ev a b=true):a < b:=by rw[Si] at h;exact of_decide_eq_true h
def K4{a b:Int}(h:Ev a b=false):b<=a:=by rw[Si] at h;have:=of_decide_eq_false h;omega
def Ag{β:Type}{b:Bool}{t f:Option β}{r:β}{X:Prop}(h1:b=true->t=some r->X)(h2:b=false->f=some r->X):cond b t f=some r->X:=λh=>(aLS h).elim (λx=>h1 x.1 x.2) λx=>h2 x.1 x.2
def As{β κ:Type}{m:Option κ}{k:κ->Option β}{r:β}{X:Prop}(h1:∀y,m=some y->k y=some r->X):m.bind k=some r->X:=λh=>(iL h).elim λy x=>h1 y x.1 x.2
def Ly{β:Type}{n:Nat}{x:Option β}{r:β}{X:Prop}(h1:n<=100000000->x=some r->X):M6 n x=some r->X:=λh=>h1 (agG h).1 (agG h).2
def YV{β:Type}{r:β}{X:Prop}:(none:Option β)=some r->X:=λh=>nomatch h
def Kn{a b:Int}(h:a=b):Dh a b=true:=by rw[QL];simpa using h
def K2{a b:Int}(h:a≠b):Dh a b=false:=by rw[QL];simpa using h
def WB{a b:Int}(h:a<=b):NS a b=true:=by rw[YM];exact decide_eq_true h
def Tz{a b:Int}(h:b < a):NS a b=false:=by rw[YM];exact decide_eq_false (by omega)
def Ij{a b:Int}(h:a < b):Ev a b=true:=by rw[Si];exact decide_eq_true h
def He{a b:Int}(h:b<=a):Ev a b=false:=by rw[Si];exact decide_eq_false (by omega)
def O0{a b:ByteArray}(h:B1 a.data.toList b.data.toList=true):a=b:=by
 rw[TV] at h;exact ByteArray.ext (Array.ext' (eq_of_beq h))
def adJ{a b:ByteArray}(h:B1 a.data.toList b.data.toList=false):a≠b:=λe=>by
 subst e;rw[TV] at h;simp at h
def fq{n m:Nat}{a:AV}(h:plain a=true):FP n m:=⟨a,a,.plain h⟩
def fbp{n m:Nat}(a:List AV)(h:BE a=true):FB n m:=⟨.cells a,.cells a,.cells (.plain h)⟩
def aGR{n:Nat}{l:List AV}(h:BE l=true):plain (.sl .lost n l)=true:=by simp only[plain,h];rfl
def WI{n:Nat}{l:List AV}(h:BE l=true):plain (.sl .full n l)=true:=by simp only[plain,h];rfl
def Z9{n m r sz k:Nat}{l:List AV}(h:decide (r < m)=true)(t:FD n m l=true):under n m (.sl (.row r sz) k l)=true:=by simp only[under,h,t];rfl
def inC(x:Int):List AV:=[.sc (.int .i64 x)]
def XG(x:Int):List AV:=[.sc (.int .u8 x)]
def stC(x:ByteArray):List AV:=[.sc (.string x)]
def aAI:OM inC (rows inC) 1:=⟨λ_=>rfl,λ_=>rfl,λ_=>rfl⟩
def uD:OM XG (rows XG) 1:=⟨λ_=>rfl,λ_=>rfl,λ_=>rfl⟩
def YL:OM stC (rows stC) 1:=⟨λ_=>rfl,λ_=>rfl,λ_=>rfl⟩
structure Pc where
 fr:Int
 AW:Int
 MT:Int
def IE(x:Pc):List AV:=[.sc (.int .i64 x.fr),.sc (.int .i64 x.AW),.sc (.int .i64 x.MT)]
def Lx:OM IE (rows IE) 3:=⟨λ_=>rfl,λ_=>rfl,λx=>(A3 rfl (A3 rfl (A3 rfl rfl)))⟩
structure Pt where
 fr:Int
 AW:Int
 num:Int
 den:Int
def Xv(x:Pt):List AV:=[.sc (.int .i64 x.fr),.sc (.int .i64 x.AW),.sc (.int .i64 x.num),.sc (.int .i64 x.den)]
def P4:OM Xv (rows Xv) 4:=⟨λ_=>rfl,λ_=>rfl,λx=>(A3 rfl (A3 rfl (A3 rfl (A3 rfl rfl))))⟩
structure Fn where
 den:Int
 ps:(List Pc)
def tG(x:Fn):List AV:=[.sc (.int .i64 x.den),.sl .lost x.ps.length (rows IE x.ps)]
def kF:OM tG (rows tG) 2:=⟨λ_=>rfl,λ_=>rfl,λx=>(A3 rfl (A3 (Lx.Ks x.ps) rfl))⟩
structure Nd where
 kind:Int
 name:ByteArray
 unit:ByteArray
 n:Int
 fr:Int
 to:Int
 known:Int
 CO:Fn
 kids:(List Nd)
 AW:Int
mutual
def ndK:Nd->List AV
 | ⟨kind,name,unit,n,fr,to,known,CO,kids,AW⟩=>[.sc (.int .i64 kind),.sc (.string name),.sc (.string unit),.sc (.int .i64 n),.sc (.int .i64 fr),.sc (.int .i64 to),.sc (.int .i64 known),.sc (.int .i64 CO.den),.sl .lost CO.ps.length (rows IE CO.ps),.sl .lost kids.length (Bi kids),.sc (.int .i64 AW)]
def Bi:List Nd->List AV
 | []=>[]
 | k::ks=>ndK k++Bi ks
end
def CW(x:Nd):List AV:=[.sc (.int .i64 x.kind),.sc (.string x.name),.sc (.string x.unit),.sc (.int .i64 x.n),.sc (.int .i64 x.fr),.sc (.int .i64 x.to),.sc (.int .i64 x.known),.sc (.int .i64 x.CO.den),.sl .lost x.CO.ps.length (rows IE x.CO.ps),.sl .lost x.kids.length (Bi x.kids),.sc (.int .i64 x.AW)]
def agS(x:Nd):ndK x=CW x:=by cases x;rfl
def Mi(l:List Nd):Bi l=rows CW l:=by
 induction l with
 | nil=>rfl
 | cons k ks ih=>rw[FC,Bi,ih,agS]
mutual
def agT:∀x:Nd,BE (ndK x)=true
 | ⟨kind,name,unit,n,fr,to,known,CO,kids,AW⟩=>by rw[ndK];exact(A3 rfl (A3 rfl (A3 rfl (A3 rfl (A3 rfl (A3 rfl (A3 rfl (A3 rfl (A3 (Lx.Ks CO.ps) (A3 (aGR (uO kids)) (A3 rfl rfl)))))))))))
def uO:∀l:List Nd,BE (Bi l)=true
 | []=>rfl
 | k::ks=>by rw[Bi];exact avT (agT k) (uO ks)
end
def AE:OM CW Bi 11:=⟨Mi,λ_=>rfl,λx=>by rw[<- agS];exact agT x⟩
structure Ex where
 op:Int
 n:Int
 unit:ByteArray
 CO:Fn
 kids:(List Ex)
mutual
def exK:Ex->List AV
 | ⟨op,n,unit,CO,kids⟩=>[.sc (.int .i64 op),.sc (.int .i64 n),.sc (.string unit),.sc (.int .i64 CO.den),.sl .lost CO.ps.length (rows IE CO.ps),.sl .lost kids.length (anP kids)]
def anP:List Ex->List AV
 | []=>[]
 | k::ks=>exK k++anP ks
end
mutual
def ayA:∀x:Ex,BE (exK x)=true
 | ⟨op,n,unit,CO,kids⟩=>by rw[exK];exact(A3 rfl (A3 rfl (A3 rfl (A3 rfl (A3 (Lx.Ks CO.ps) (A3 (aGR (tE kids)) rfl))))))
def tE:∀l:List Ex,BE (anP l)=true
 | []=>rfl
 | k::ks=>by rw[anP];exact avT (ayA k) (tE ks)
end
structure Ar where
 number:Int
 line:Int
 aQY:Int
 fr:Int
 to:Int
 known:Int
 wh:(List Ex)
 un:(List Int)
 am:Ex
structure Dc where
 name:ByteArray
 unit:ByteArray
 aQZ:Int
structure Co where
 facts:(List Dc)
 lines:(List Dc)
 aQP:(List Ar)
structure Tk where
 kind:Int
 text:ByteArray
 AW:Int
def Gn(x:Tk):List AV:=[.sc (.int .i64 x.kind),.sc (.string x.text),.sc (.int .i64 x.AW)]
def BP:OM Gn (rows Gn) 3:=⟨λ_=>rfl,λ_=>rfl,λx=>(A3 rfl (A3 rfl (A3 rfl rfl)))⟩
structure Dg where
 err:Int
 AW:Int
def Pq(x:Dg):List AV:=[.sc (.int .i64 x.err),.sc (.int .i64 x.AW)]
def Cn:OM Pq (rows Pq) 2:=⟨λ_=>rfl,λ_=>rfl,λx=>(A3 rfl (A3 rfl rfl))⟩
structure Pr where
 Bu:(List Tk)
 J5:Int
 DJ:Int
def Rr(x:Pr):List AV:=[.sl .lost x.Bu.length (rows Gn x.Bu),.sc (.int .i64 x.J5),.sc (.int .i64 x.DJ)]
def CM:OM Rr (rows Rr) 3:=⟨λ_=>rfl,λ_=>rfl,λx=>(A3 (BP.Ks x.Bu) (A3 rfl (A3 rfl rfl)))⟩
structure Ps where
 l:(List Tk)
 at_:Int
 end_:Int
 err:Int
 aQL:Int
structure Ck where
 nodes:Int
def JF(x:Ck):List AV:=[.sc (.int .i64 x.nodes)]
def Ro:OM JF (rows JF) 1:=⟨λ_=>rfl,λ_=>rfl,λx=>(A3 rfl rfl)⟩
structure Cq where
 src:Nd
 aQJ:(List Dg)
structure Ft where
 aDT:Co
 lines:(Mm Int Int)
 nodes:Int
structure Sc where
 facts:(Mm ByteArray ByteArray)
 lines:(Mm ByteArray ByteArray)
 abV:(Mm Int ByteArray)
structure Tr where
 aDT:Co
 facts:(Mm ByteArray Int)
 lines:(Mm ByteArray Int)
 abV:(Mm Int Int)
def u24:P.underlying 24=some (.slice 64):=by kernel_rfl
def s64:(P.info? 64).map (·.size)=some 3:=by kernel_rfl
def i64:(P.info? 64).map (λi=>(i.size,i.bytes,i.zero.map (·.cells.size)))=some (3,24,some 3):=by kernel_rfl
def WW(own:AI.Own){l:List Pc}{i:Nat}{x:Pc}(h:l[i]?=some x):CH P 24 (.sl own l.length (rows IE l)) (.sc (.int .i64 ((i:Nat):Int)))=some (.el (IE x++rows IE (l.drop (i+1)))):=Lx.ix u24 s64 own h
def aFW(own:AI.Own){l:List Pc}{z:Int}{x:Pc}(h:Ha l z=some x):CH P 24 (.sl own l.length (rows IE l)) (.sc (.int .i64 z))=some (.el (IE x++rows IE (l.drop (z.toNat+1)))):=Lx.ixz u24 s64 own h
def aEJ(own:AI.Own)(l m:List Pc){o:AI.Own}{n:Nat}{ns:List AV}(hn:Wn ns (rows IE m))(eE:n=m.length)(ho:ns.all one=true)(hm:m.length≠0)(hlen:l.length+m.length<=100000000):Cd.ok P G0 (.Ws 24 24 own l.length (rows IE l) (.sl o n ns) 3 (l++m).length (rows IE (l++m))):=Lx.Ws u24 u24 i64 (by decide) (by decide) own l m hn eE ho hm hlen
def aMI(own:AI.Own)(l m:List Pc){o:AI.Own}(s:AS)(hm:m.length=0)(hlen:l.length+m.length<=100000000):Cd.ok P G0 (.UE s 24 24 (.sl own l.length (rows IE l)) (.sl o m.length (rows IE m)) (.sl own l.length (rows IE l)) s):=Lx.ga u24 u24 i64 (by decide) (by decide) own l m s hm hlen
def u27:P.underlying 27=some (.slice 29):=by kernel_rfl
def s29:(P.info? 29).map (·.size)=some 11:=by kernel_rfl
def i29:(P.info? 29).map (λi=>(i.size,i.bytes,i.zero.map (·.cells.size)))=some (11,136,some 11):=by kernel_rfl
def KA(own:AI.Own){l:List Nd}{i:Nat}{x:Nd}(h:l[i]?=some x):CH P 27 (.sl own l.length (Bi l)) (.sc (.int .i64 ((i:Nat):Int)))=some (.el (CW x++Bi (l.drop (i+1)))):=AE.ix u27 s29 own h
def Tv(own:AI.Own)(l m:List Nd){o:AI.Own}{n:Nat}{ns:List AV}(hn:Wn ns (Bi m))(eE:n=m.length)(ho:ns.all one=true)(hm:m.length≠0)(hlen:l.length+m.length<=100000000):Cd.ok P G0 (.Ws 27 27 own l.length (Bi l) (.sl o n ns) 11 (l++m).length (Bi (l++m))):=AE.Ws u27 u27 i29 (by decide) (by decide) own l m hn eE ho hm hlen
def aeB(own:AI.Own)(l m:List Nd){o:AI.Own}{n:Nat}{ns cs:List AV}(e:cs=Bi l)(hn:Wn ns (Bi m))(eE:n=m.length)(ho:ns.all one=true)(hm:m.length≠0)(hlen:l.length+m.length<=100000000):Cd.ok P G0 (.Ws 27 27 own l.length cs (.sl o n ns) 11 (l++m).length (Bi (l++m))):=e▸Tv own l m hn eE ho hm hlen
def aEI(own:AI.Own)(l m:List Nd){o:AI.Own}(hm:¬m.length=0)(hlen:l.length+m.length<=100000000):Cd.ok P G0 (.Ws 27 27 own l.length (Bi l) (.sl o m.length (Bi m)) 11 (l++m).length (Bi (l++m))):=AE.Ws u27 u27 i29 (by decide) (by decide) own l m (Wn.refl _) rfl (AE.oB (λ_=>rfl) m) hm hlen
def aDI(m:List Nd){o:AI.Own}(hm:¬m.length=0)(hlen:m.length<=100000000):Cd.ok P G0 (.apB 27 27 (.sl .full 0 []) (.sl o m.length (Bi m)) m.length (.cells (Bi m))):=AE.apm u27 u27 i29 (by decide) (by decide) (λ_=>rfl) m hm hlen
def aMJ(own:AI.Own)(l m:List Nd){o:AI.Own}(s:AS)(hm:m.length=0)(hlen:l.length+m.length<=100000000):Cd.ok P G0 (.UE s 27 27 (.sl own l.length (Bi l)) (.sl o m.length (Bi m)) (.sl own l.length (Bi l)) s):=AE.ga u27 u27 i29 (by decide) (by decide) own l m s hm hlen
def u30:P.underlying 30=some (.slice 45):=by kernel_rfl
def s45:(P.info? 45).map (·.size)=some 2:=by kernel_rfl
def i45:(P.info? 45).map (λi=>(i.size,i.bytes,i.zero.map (·.cells.size)))=some (2,16,some 2):=by kernel_rfl
def kC(own:AI.Own){l:List Dg}{i:Nat}{x:Dg}(h:l[i]?=some x):CH P 30 (.sl own l.length (rows Pq l)) (.sc (.int .i64 ((i:Nat):Int)))=some (.el (Pq x++rows Pq (l.drop (i+1)))):=Cn.ix u30 s45 own h
def aEK(own:AI.Own)(l m:List Dg){o:AI.Own}{n:Nat}{ns:List AV}(hn:Wn ns (rows Pq m))(eE:n=m.length)(ho:ns.all one=true)(hm:m.length≠0)(hlen:l.length+m.length<=100000000):Cd.ok P G0 (.Ws 30 30 own l.length (rows Pq l) (.sl o n ns) 2 (l++m).length (rows Pq (l++m))):=Cn.Ws u30 u30 i45 (by decide) (by decide) own l m hn eE ho hm hlen
def u38:P.underlying 38=some (.slice 43):=by kernel_rfl
def s43:(P.info? 43).map (·.size)=some 3:=by kernel_rfl
def i43:(P.info? 43).map (λi=>(i.size,i.bytes,i.zero.map (·.cells.size)))=some (3,32,some 3):=by kernel_rfl
def aOQ(own:AI.Own){l:List Tk}{i:Nat}{x:Tk}(h:l[i]?=some x):CH P 38 (.sl own l.length (rows Gn l)) (.sc (.int .i64 ((i:Nat):Int)))=some (.el (Gn x++rows Gn (l.drop (i+1)))):=BP.ix u38 s43 own h
def afQ(own:AI.Own){l:List Tk}{z:Int}{x:Tk}(h:Ha l z=some x):CH P 38 (.sl own l.length (rows Gn l)) (.sc (.int .i64 z))=some (.el (Gn x++rows Gn (l.drop (z.toNat+1)))):=BP.ixz u38 s43 own h
def aEL(own:AI.Own)(l m:List Tk){o:AI.Own}{n:Nat}{ns:List AV}(hn:Wn ns (rows Gn m))(eE:n=m.length)(ho:ns.all one=true)(hm:m.length≠0)(hlen:l.length+m.length<=100000000):Cd.ok P G0 (.Ws 38 38 own l.length (rows Gn l) (.sl o n ns) 3 (l++m).length (rows Gn (l++m))):=BP.Ws u38 u38 i43 (by decide) (by decide) own l m hn eE ho hm hlen
def u52:P.underlying 52=some (.slice 5):=by kernel_rfl
def s5:(P.info? 5).map (·.size)=some 1:=by kernel_rfl
def i5:(P.info? 5).map (λi=>(i.size,i.bytes,i.zero.map (·.cells.size)))=some (1,1,some 1):=by kernel_rfl
def aOR(own:AI.Own){l:List Int}{i:Nat}{x:Int}(h:l[i]?=some x):CH P 52 (.sl own l.length (rows XG l)) (.sc (.int .i64 ((i:Nat):Int)))=some (.el (XG x++rows XG (l.drop (i+1)))):=uD.ix u52 s5 own h
def aEM(own:AI.Own)(l m:List Int){o:AI.Own}{n:Nat}{ns:List AV}(hn:Wn ns (rows XG m))(eE:n=m.length)(ho:ns.all one=true)(hm:m.length≠0)(hlen:l.length+m.length<=100000000):Cd.ok P G0 (.Ws 52 52 own l.length (rows XG l) (.sl o n ns) 1 (l++m).length (rows XG (l++m))):=uD.Ws u52 u52 i5 (by decide) (by decide) own l m hn eE ho hm hlen
def u57:P.underlying 57=some (.slice 9):=by kernel_rfl
def s9:(P.info? 9).map (·.size)=some 1:=by kernel_rfl
def aAC(own:AI.Own){l:List ByteArray}{i:Nat}{x:ByteArray}(h:l[i]?=some x):CH P 57 (.sl own l.length (rows stC l)) (.sc (.int .i64 ((i:Nat):Int)))=some (.el (stC x++rows stC (l.drop (i+1)))):=YL.ix u57 s9 own h
def aFX(own:AI.Own){l:List ByteArray}{z:Int}{x:ByteArray}(h:Ha l z=some x):CH P 57 (.sl own l.length (rows stC l)) (.sc (.int .i64 z))=some (.el (stC x++rows stC (l.drop (z.toNat+1)))):=YL.ixz u57 s9 own h
def asU:P.underlying 174=some (.slice 176):=by kernel_rfl
def aHD:(P.info? 176).map (·.size)=some 4:=by kernel_rfl
def i176:(P.info? 176).map (λi=>(i.size,i.bytes,i.zero.map (·.cells.size)))=some (4,32,some 4):=by kernel_rfl
def aFV(own:AI.Own){l:List Pt}{i:Nat}{x:Pt}(h:l[i]?=some x):CH P 174 (.sl own l.length (rows Xv l)) (.sc (.int .i64 ((i:Nat):Int)))=some (.el (Xv x++rows Xv (l.drop (i+1)))):=P4.ix asU aHD own h
def aAE(own:AI.Own){l:List Pt}{z:Int}{x:Pt}(h:Ha l z=some x):CH P 174 (.sl own l.length (rows Xv l)) (.sc (.int .i64 z))=some (.el (Xv x++rows Xv (l.drop (z.toNat+1)))):=P4.ixz asU aHD own h
def ayI(own:AI.Own)(l m:List Pt){o:AI.Own}{n:Nat}{ns:List AV}(hn:Wn ns (rows Xv m))(eE:n=m.length)(ho:ns.all one=true)(hm:m.length≠0)(hlen:l.length+m.length<=100000000):Cd.ok P G0 (.Ws 174 174 own l.length (rows Xv l) (.sl o n ns) 4 (l++m).length (rows Xv (l++m))):=P4.Ws asU asU i176 (by decide) (by decide) own l m hn eE ho hm hlen
def s3:(P.info? 3).map (·.size)=some 1:=by kernel_rfl
def i3:(P.info? 3).map (λi=>(i.size,i.bytes,i.zero.map (·.cells.size)))=some (1,8,some 1):=by kernel_rfl
def avI{id n i:Nat}(h:i < n):CH P 27 (.msl id 0 n) (.sc (.int .i64 ((i:Nat):Int)))=some (.ptr id (0+i*11)):=AE.ixm u27 s29 h
def w64(x:Int):Int:=IntKind.i64.wrap x
def abG(x y:Int):Int:=IntKind.i64.wrap (x.tdiv y)
def aC(x y:Int):Int:=x.tmod y
def S3(x y:Int):Option Int:=if y=0 then none else some (abG x y)
def Ye(x y:Int):Option Int:=if y=0 then none else some (aC x y)
def Qs(s:ByteArray)(l h:Int):Option ByteArray:=if 0<=l/\l<=h/\h<=((s.data.toList.length:Nat):Int) then some ⟨((s.data.toList.drop l.toNat).take (h.toNat - l.toNat)).toArray⟩ else none
def ajM{α:Type}(s:List α)(l h:Int):Option (List α):=if 0<=l/\l<=h/\h<=((s.length:Nat):Int) then some ((s.drop l.toNat).take (h.toNat - l.toNat)) else none
def cY(z:Int)(h:0<=z):RA (.sc (.int .i64 z))=some z.toNat:=by unfold RA;simp[h]
def Q1{a b c:Int}(h:S3 a b=some c)(x y:Operand):MZ P .quo 3 x y (.sc (.int .i64 a)) (.sc (.int .i64 b))=some (.sc (.int .i64 c)):=by
 unfold S3 at h;split at h;cases h;rename_i hb;cases h;simp[MZ,Ti,Vm,eqGuard,binOp,Op.intDiv,hb,AI.pv,Z5,scalar,abG,Bind.bind,Sem.bind,Pure.pure]
def fO{a b c:Int}(h:Ye a b=some c)(x y:Operand):MZ P .rem 3 x y (.sc (.int .i64 a)) (.sc (.int .i64 b))=some (.sc (.int .i64 c)):=by
 unfold Ye at h;split at h;cases h;rename_i hb;cases h;simp[MZ,Ti,Vm,eqGuard,binOp,Op.intDiv,hb,AI.pv,Z5,scalar,aC,Bind.bind,Sem.bind,Pure.pure]
def us9:P.underlying 9=some .string:=by kernel_rfl
def WX{s:ByteArray}{i:Nat}{c:UInt8}(h:s.data.toList[i]?=some c):Lm P 9 (.sc (.string s)) (.sc (.int .i64 ((i:Nat):Int)))=some (.sc (.int .u8 ((c.toNat:Nat):Int))):=by
 unfold Lm;rw[us9,cY _ (by omega)];simp only[Int.toNat_natCast,h]
def Jt{s:ByteArray}{z:Int}{c:UInt8}(h:Ha s.data.toList z=some c):Lm P 9 (.sc (.string s)) (.sc (.int .i64 z))=some (.sc (.int .u8 ((c.toNat:Nat):Int))):=by
 unfold Ha at h;split at h;rename_i hz;have:=WX h;rwa[Int.toNat_of_nonneg hz] at this;cases h
def II{s v:ByteArray}{l h:Int}(e:Qs s l h=some v):LZ P 9 (.sc (.string s)) (some (.sc (.int .i64 l))) (some (.sc (.int .i64 h))) none=some (.sc (.string v)):=by
 unfold Qs at e;split at e;rename_i hc;cases e;unfold LZ;rw[us9];simp only[NX,cY l hc.1,cY h (by omega)];rw[if_pos ⟨by omega,by omega⟩];cases e
def asD(l h:Nat){s:List Nd}(h1:l<=h)(h2:h<=s.length)(lo hi:Option AV)(e1:NX 0 lo=some l)(e2:NX s.length hi=some h):LZ P 27 (.sl .lost s.length (Bi s)) lo hi none=some (.sl .lost ((s.drop l).take (h - l)).length (Bi ((s.drop l).take (h - l)))):=AE.sub u27 s29 l h h1 h2 lo hi e1 e2
def wA{s v:List Nd}{l:Int}(e:ajM s l ((s.length:Nat):Int)=some v):LZ P 27 (.sl .lost s.length (Bi s)) (some (.sc (.int .i64 l))) (none) none=some (.sl .lost v.length (Bi v)):=by
 unfold ajM at e;split at e;rename_i hc;cases e;exact asD _ _ (by omega) (by omega) _ _ (cY l hc.1) rfl;cases e
def PK(x y:Pc):Bool:=x.fr == y.fr&&(x.AW == y.AW&&(x.MT == y.MT))
def rM(x y:Pc):ZK [.int .i64 x.fr,.int .i64 x.AW,.int .i64 x.MT] [.int .i64 y.fr,.int .i64 y.AW,.int .i64 y.MT]=some (PK x y):=by
 simp only[ZK,fEq,PK,if_true,Option.bind_some];cases (x.fr == y.fr)<;>cases (x.AW == y.AW)<;>cases (x.MT == y.MT)<;>rfl
def ayE:Flat P 64 [1,1,1]:=⟨by kernel_rfl,by kernel_rfl,by kernel_rfl,by kernel_rfl,by kernel_rfl,by kernel_rfl⟩
def bD{x y:Pc}{b:Bool}(h:PK x y=b)(ox oy:Operand):MZ P .neq 64 ox oy (.agg (IE x)) (.agg (IE y))=some (.sc (.bool (!b))):=by
 subst h;exact(ayE.bin (us:=[.int .i64 x.fr,.int .i64 x.AW,.int .i64 x.MT]) (vs:=[.int .i64 y.fr,.int .i64 y.AW,.int .i64 y.MT]) ⟨.inl ⟨_,rfl,rfl⟩,⟨.inl ⟨_,rfl,rfl⟩,⟨.inl ⟨_,rfl,rfl⟩,trivial⟩⟩⟩ ⟨.inl ⟨_,rfl,rfl⟩,⟨.inl ⟨_,rfl,rfl⟩,⟨.inl ⟨_,rfl,rfl⟩,trivial⟩⟩⟩ (rM x y) ox oy).2
def fV(x y:Dg):Bool:=x.err == y.err&&(x.AW == y.AW)
def rK(x y:Dg):ZK [.int .i64 x.err,.int .i64 x.AW] [.int .i64 y.err,.int .i64 y.AW]=some (fV x y):=by
 simp only[ZK,fEq,fV,if_true,Option.bind_some];cases (x.err == y.err)<;>cases (x.AW == y.AW)<;>rfl
def ayD:Flat P 45 [1,1]:=⟨by kernel_rfl,by kernel_rfl,by kernel_rfl,by kernel_rfl,by kernel_rfl,by kernel_rfl⟩
def avP{x y:Dg}{b:Bool}(h:fV x y=b)(ox oy:Operand):MZ P .neq 45 ox oy (.agg (Pq x)) (.agg (Pq y))=some (.sc (.bool (!b))):=by
 subst h;exact(ayD.bin (us:=[.int .i64 x.err,.int .i64 x.AW]) (vs:=[.int .i64 y.err,.int .i64 y.AW]) ⟨.inl ⟨_,rfl,rfl⟩,⟨.inl ⟨_,rfl,rfl⟩,trivial⟩⟩ ⟨.inl ⟨_,rfl,rfl⟩,⟨.inl ⟨_,rfl,rfl⟩,trivial⟩⟩ (rK x y) ox oy).2
def arY(l:List Int):ByteArray:=⟨(l.map λx=>UInt8.ofNat x.toNat).toArray⟩
def xM(x:ByteArray):List Int:=x.data.toList.map λc=>((c.toNat:Nat):Int)
def vN:∀l:List Int,AI.bytesOf (rows XG l)=some (l.map λx=>UInt8.ofNat x.toNat)
 | []=>rfl
 | x::l=>by
   rw[FC];show(match AI.byteOf (.sc (.int .u8 x)),AI.bytesOf (rows XG l) with | some b,some m=>some (b::m) | _,_=>none)=_
   rw[vN l];rfl
def ahX(x:ByteArray):rows XG (xM x)=byC x.data.toList:=by
 unfold xM byC
 induction x.data.toList with
 | nil=>rfl
 | cons c l ih=>rw[List.map_cons,FC,ih];rfl
def axP(own:AI.Own)(l:List Int):RX P 52 9 (.sl own l.length (rows XG l))=some (.sc (.string (arY l))):=by
 have hl:l.length=(rows XG l).length:=by rw[HV (f:=XG) (k:=1) (λ_=>rfl) l];omega
 unfold RX;rw[u52,us9];have h8:P.underlying 5=some (.int .u8):=by kernel_rfl
 simp only[h8];rw[if_pos hl,vN];rfl
def tM(own:AI.Own)(l:List Int)(x:ByteArray)(hm:¬((x.data.toList.length:Nat):Int)=0)(hlen:l.length+x.data.toList.length<=100000000):Cd.ok P G0 (.Ws 52 9 own l.length (rows XG l) (.sc (.string x)) 1 (l++xM x).length (rows XG (l++xM x))):=by
 rw[MQ,ahX,List.length_append,show(xM x).length=x.data.toList.length from List.length_map _];exact aEN u52 us9 i5 own ((HV (f:=XG) (k:=1) (λ_=>rfl) l).trans (Nat.mul_one _)) x (by omega) hlen
def beforeL:List Int:=[0,31,59,90,120,151,181,212,243,273,304,334,365]
def pY{z:Int}{x:Int}(h:Ha beforeL z=some x):CH P 203 (.el (rows inC beforeL)) (.sc (.int .i64 z))=some (.el (inC x++rows inC (beforeL.drop (z.toNat+1)))):=aAI.ixa (elem:=3) (len:=13) (by kernel_rfl) (by kernel_rfl) rfl h
def aIK{a b:ByteArray}{q:Bool}(h:some (B1 a.data.toList b.data.toList)=some q)(x y:Operand):MZ P .eql 9 x y (.sc (.string a)) (.sc (.string b))=some (.sc (.bool q)):=by
 rw[<- UM];cases h
 kernel_rfl
def aIL{a b:Int}{q:Bool}(h:some (NS a b)=some q)(x y:Operand):MZ P .leq 3 x y (.sc (.int .i64 a)) (.sc (.int .i64 b))=some (.sc (.bool q)):=by
 rw[<- UM];cases h
 kernel_rfl
def qX:ByteArray:=⟨#[9,32]⟩
def aBM:ByteArray:=⟨#[10]⟩
def qY:ByteArray:=⟨#[13,10]⟩
def aBN:ByteArray:=⟨#[32]⟩
def Uf:ByteArray:=⟨#[32,47,47,10]⟩
def Ie:ByteArray:=⟨#[32,47,47,32,102,97,99,116,32,120,10]⟩
def Ig:ByteArray:=⟨#[33,61]⟩
def Ug:ByteArray:=⟨#[40]⟩
def V1:ByteArray:=⟨#[41]⟩
def PH:ByteArray:=⟨#[42]⟩
def Oy:ByteArray:=⟨#[43]⟩
def Uh:ByteArray:=⟨#[44]⟩
def Li:ByteArray:=⟨#[45]⟩
def aBO:ByteArray:=⟨#[46]⟩
def ED:ByteArray:=⟨#[47]⟩
def qZ:ByteArray:=⟨#[47,47]⟩
def Vi:ByteArray:=⟨#[58]⟩
def RM:ByteArray:=⟨#[59]⟩
def Kf:ByteArray:=⟨#[60]⟩
def Hj:ByteArray:=⟨#[60,61]⟩
def GX:ByteArray:=⟨#[61,61]⟩
def JI:ByteArray:=⟨#[62]⟩
def FX:ByteArray:=⟨#[62,61]⟩
def aS:ByteArray:=⟨#[97]⟩
def MN:ByteArray:=⟨#[97,32,60,32,98,32,60,32,99]⟩
def EY:ByteArray:=⟨#[97,32,62,32,51,32,97,110,100,32,110,111,116,32,98,32,61,61,32,99]⟩
def QF:ByteArray:=⟨#[97,109,111,117,110,116]⟩
def PW:ByteArray:=⟨#[97,110,100]⟩
def dC:ByteArray:=⟨#[97,114,116]⟩
def Iu:ByteArray:=⟨#[97,114,116,105,99,108,101]⟩
def iJ:ByteArray:=⟨#[97,116]⟩
def bS:ByteArray:=⟨#[98]⟩
def cS:ByteArray:=⟨#[99]⟩
def dO:ByteArray:=⟨#[100,97,121]⟩
def Mg:ByteArray:=⟨#[100,101,100,117,99,116]⟩
def Tq:ByteArray:=⟨#[101,97,114,110]⟩
def Tt:ByteArray:=⟨#[102,97,99,116]⟩
def Eo:ByteArray:=⟨#[102,97,99,116,32,114,97,116,101,32,58,32,69,85,82,32,108,105,110,101,32,120]⟩
def TW:ByteArray:=⟨#[102,97,108,115,101]⟩
def Pv:ByteArray:=⟨#[102,108,111,111,114]⟩
def adT:ByteArray:=⟨#[102,111,114]⟩
def tJ:ByteArray:=⟨#[102,114,111,109]⟩
def F3:ByteArray:=⟨#[103,114,101,97,116,101,115,116]⟩
def EE:ByteArray:=⟨#[104,111,117,114,115,32,97,116,32,114,97,116,101,32,43,32,97,114,116,32,51]⟩
def Ty:ByteArray:=⟨#[105,110,102,111]⟩
def VP:ByteArray:=⟨#[107,110,111,119,110]⟩
def KW:ByteArray:=⟨#[108,101,97,115,116]⟩
def O4:ByteArray:=⟨#[108,105,110,101]⟩
def Av:ByteArray:=⟨#[108,105,110,101,32,112,97,121,32,58,32,69,85,82,32,101,97,114,110,59,32,97,114,116,105,99,108,101,32,51,32,102,111,114,32,112,97,121,32,114,97,110,107,32,49,32,102,114,111,109,32,50,48,50,52,45,48,49,45,48,49,32,107,110,111,119,110,32,50,48,50,52,45,48,49,45,48,49,32,123,32,97,109,111,117,110,116,32,69,85,82,32,49,46,53,48,59,32,125]⟩
def apH:ByteArray:=⟨#[109,105,110]⟩
def JV:ByteArray:=⟨#[109,105,110,117,116,101,115]⟩
def QS:ByteArray:=⟨#[109,111,110,116,104]⟩
def VV:ByteArray:=⟨#[110,111,116]⟩
def EG:ByteArray:=⟨#[110,117,109,98,101,114]⟩
def kV:ByteArray:=⟨#[111,114]⟩
def vG:ByteArray:=⟨#[114,97,110,107]⟩
def Q7:ByteArray:=⟨#[116,97,98,108,101]⟩
def BH:ByteArray:=⟨#[116,97,98,108,101,40,120,59,32,48,32,58,32,48,46,48,48,32,43,32,49,47,49,48,44,32,53,48,48,46,48,48,32,58,32,53,48,46,48,48,32,43,32,49,47,52,41]⟩
def toS:ByteArray:=⟨#[116,111]⟩
def Zq:ByteArray:=⟨#[116,114,117,101]⟩
def Hk:ByteArray:=⟨#[116,114,117,116,104]⟩
def SW:ByteArray:=⟨#[117,110,108,101,115,115]⟩
def LM:ByteArray:=⟨#[119,101,101,107,100,97,121]⟩
def cP:ByteArray:=⟨#[119,104,101,110]⟩
def VC:ByteArray:=⟨#[121,101,97,114]⟩
def fK:ByteArray:=⟨#[123]⟩
def Z3:ByteArray:=⟨#[125]⟩
end Mo
end Go.Proofs.YtpbkhogolfegfaaGreatDoor
namespace Go.Proofs.YtpbkhogolfegfaaGreatDoor
open AI Go
namespace Mo
set_option maxRecDepth 100000
set_option maxHeartbeats 4000000
def aBA(x:Pc):Prop:=(-9223372036854775808<=x.fr/\x.fr<=9223372036854775807)/\(-9223372036854775808<=x.AW/\x.AW<=9223372036854775807)/\(-9223372036854775808<=x.MT/\x.MT<=9223372036854775807)
def qP(x:Fn):Prop:=x.ps.length<=9223372036854775807/\(∀y∈x.ps,aBA y)
mutual
def KY:Nd->Prop
 | ⟨kind,name,unit,n,fr,to,known,CO,kids,AW⟩=>qP CO/\kids.length<=9223372036854775807/\kU kids
def kU:List Nd->Prop
 | []=>True
 | k::ks=>KY k/\kU ks
end
def bI{l:List Nd}:kU l↔∀k∈l,KY k:=by
 induction l with
 | nil=>simp[kU]
 | cons k l ih=>simp[kU,ih]
def P8(x:Nd):KY x↔qP x.CO/\x.kids.length<=9223372036854775807/\∀y∈x.kids,KY y:=by
 cases x;rw[KY,bI]
end Mo
end Go.Proofs.YtpbkhogolfegfaaGreatDoor
