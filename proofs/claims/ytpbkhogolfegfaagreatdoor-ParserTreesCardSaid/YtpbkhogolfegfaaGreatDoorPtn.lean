/- Part of a proof: see the last text. -/
import Derived.Test.YtpbkhogolfegfaaGreatDoorPtm
import Derived.Shelf.Strings.Builder1
import Derived.Shelf.Strings.Builder2
import Derived.Shelf.Strconv.Atoi
import Derived.Shelf.Strconv.Itoa0
import Derived.Shelf.Strconv.Itoa1
import Derived.Shelf.LaysM
import Derived.Shelf.Strconv.Itoa2
import Derived.Shelf.Strconv.Itoa3
import Derived.Shelf.Strconv.AtoiErrFast
import Derived.Shelf.Strconv.ParseIntEmpty
import Derived.Shelf.Strconv.AtoiFail
import Derived.Shelf.Strconv.Clone
import Derived.Shelf.Strconv.SyntaxError
import Derived.Shelf.LaysC
import Derived.Shelf.Strconv.ToError
import Derived.Shelf.Strconv.Lower
import Derived.Shelf.Strconv.ParseUint10
import Derived.Shelf.Strconv.ParseUint10Empty
import Derived.Shelf.Strconv.ParseUint10Any
import Derived.Shelf.Strconv.ParseInt10
import Derived.Shelf.Strconv.AtoiLong
import Derived.Shelf.Strconv.AtoiInnerAll
import Derived.Shelf.Strconv.RangeError
import Derived.Shelf.Strconv.ToErrorRange
import Derived.Shelf.Strconv.AtoiAll
import Derived.Shelf.Strings.Search1
import Derived.Shelf.Strings.Search2
import Derived.Shelf.Strings.Search3
import Derived.Shelf.Strings.Count
import Derived.Shelf.Strings.Shaped
import Derived.Shelf.Strings.Split
import Derived.Shelf.Strings.Replace
import Derived.Shelf.Unicode.DecodeSlow
import Derived.Test.YtpbkhogolfegfaaGreatDoorProg
import Derived.KernelRfl
set_option linter.unusedVariables false
set_option linter.unusedSimpArgs false
set_option linter.defProp false
noncomputable section
namespace Go.Proofs
open Go.Shelf
def Tryz.gG:Go.Shelf.Ren:=⟨λ| 172=>173 | 244=>193 | 245=>194 | 247=>207 | 279=>208 | 280=>209 | 281=>210 | 282=>211 | 287=>224 | 316=>225 | 171=>64 | 205=>226 | 321=>235 | 322=>236 | 243=>114 | 246=>149 | 283=>166 | 284=>167 | 285=>168 | 286=>169 | 129=>189 | 317=>188 | 318=>190 | 319=>191 | 320=>192 | 337=>205 | 338=>206 | n=>n,λ| 9=>9 | 3=>3 | 75=>153 | 76=>154 | 4=>4 | 5=>5 | 167=>182 | 37=>52 | 0=>0 | 85=>183 | 2=>2 | 168=>185 | 53=>146 | 175=>197 | 46=>170 | 210=>201 | 127=>180 | 145=>210 | 143=>208 | 21=>21 | 171=>145 | 173=>149 | 212=>167 | 51=>168 | 20=>20 | 213=>169 | 232=>195 | 233=>196 | 80=>108 | n=>n,λ| 15=>10 | 16=>11 | 17=>4 | 18=>8 | 19=>9 | n=>n⟩
def Tryz.alE:Go.Proofs.Lays.n172 Tryz.prog Tryz.gG:={
 mixed:=by kernel_rfl
 f129:=Tryz.func189.trans (congrArg some (by kernel_rfl))
 f171:=Tryz.func64.trans (congrArg some (by kernel_rfl))
 f172:=Tryz.func173.trans (congrArg some (by kernel_rfl))
 f205:=Tryz.func226.trans (congrArg some (by kernel_rfl))
 f243:=Tryz.func114.trans (congrArg some (by kernel_rfl))
 f244:=Tryz.func193.trans (congrArg some (by kernel_rfl))
 f245:=Tryz.func194.trans (congrArg some (by kernel_rfl))
 f246:=Tryz.func149.trans (congrArg some (by kernel_rfl))
 f247:=Tryz.func207.trans (congrArg some (by kernel_rfl))
 f279:=Tryz.func208.trans (congrArg some (by kernel_rfl))
 f280:=Tryz.func209.trans (congrArg some (by kernel_rfl))
 f281:=Tryz.func210.trans (congrArg some (by kernel_rfl))
 f282:=Tryz.func211.trans (congrArg some (by kernel_rfl))
 f283:=Tryz.func166.trans (congrArg some (by kernel_rfl))
 f284:=Tryz.func167.trans (congrArg some (by kernel_rfl))
 f285:=Tryz.func168.trans (congrArg some (by kernel_rfl))
 f286:=Tryz.func169.trans (congrArg some (by kernel_rfl))
 f287:=Tryz.func224.trans (congrArg some (by kernel_rfl))
 f316:=Tryz.func225.trans (congrArg some (by kernel_rfl))
 f317:=Tryz.func188.trans (congrArg some (by kernel_rfl))
 f318:=Tryz.func190.trans (congrArg some (by kernel_rfl))
 f319:=Tryz.func191.trans (congrArg some (by kernel_rfl))
 f320:=Tryz.func192.trans (congrArg some (by kernel_rfl))
 f321:=Tryz.func235.trans (congrArg some (by kernel_rfl))
 f322:=Tryz.func236.trans (congrArg some (by kernel_rfl))
 f337:=Tryz.func205.trans (congrArg some (by kernel_rfl))
 f338:=Tryz.func206.trans (congrArg some (by kernel_rfl))
 t0:=Tryz.underlying0
 a0:=Tryz.isAgg0
 z0:=Tryz.sizeOf0
 v0:=Tryz.zeroValue0
 t2:=Tryz.underlying2
 a2:=Tryz.isAgg2
 z2:=Tryz.sizeOf2
 v2:=Tryz.zeroValue2
 t3:=Tryz.underlying3
 a3:=Tryz.isAgg3
 z3:=Tryz.sizeOf3
 v3:=Tryz.zeroValue3
 t4:=Tryz.underlying4
 a4:=Tryz.isAgg4
 z4:=Tryz.sizeOf4
 v4:=Tryz.zeroValue4
 t5:=Tryz.underlying5
 a5:=Tryz.isAgg5
 z5:=Tryz.sizeOf5
 v5:=Tryz.zeroValue5
 t9:=Tryz.underlying9
 a9:=Tryz.isAgg9
 z9:=Tryz.sizeOf9
 v9:=Tryz.zeroValue9
 t20:=Tryz.underlying20
 a20:=Tryz.isAgg20
 z20:=Tryz.sizeOf20
 v20:=Tryz.zeroValue20
 t21:=Tryz.underlying21
 a21:=Tryz.isAgg21
 z21:=Tryz.sizeOf21
 v21:=Tryz.zeroValue21
 t37:=Tryz.underlying52
 a37:=Tryz.isAgg52
 z37:=Tryz.sizeOf52
 v37:=Tryz.zeroValue52
 t46:=Tryz.underlying170
 a46:=Tryz.isAgg170
 z46:=Tryz.sizeOf170
 v46:=Tryz.zeroValue170
 t51:=Tryz.underlying168
 a51:=Tryz.isAgg168
 z51:=Tryz.sizeOf168
 v51:=Tryz.zeroValue168
 t53:=Tryz.underlying146
 a53:=Tryz.isAgg146
 z53:=Tryz.sizeOf146
 v53:=Tryz.zeroValue146
 t75:=Tryz.underlying153
 a75:=Tryz.isAgg153
 z75:=Tryz.sizeOf153
 v75:=Tryz.zeroValue153
 t76:=Tryz.underlying154
 a76:=Tryz.isAgg154
 z76:=Tryz.sizeOf154
 v76:=Tryz.zeroValue154
 t85:=Tryz.underlying183
 a85:=Tryz.isAgg183
 z85:=Tryz.sizeOf183
 v85:=Tryz.zeroValue183
 t127:=Tryz.underlying180
 a127:=Tryz.isAgg180
 z127:=Tryz.sizeOf180
 v127:=Tryz.zeroValue180
 t143:=Tryz.underlying208
 a143:=Tryz.isAgg208
 z143:=Tryz.sizeOf208
 v143:=Tryz.zeroValue208
 t145:=Tryz.underlying210
 a145:=Tryz.isAgg210
 z145:=Tryz.sizeOf210
 v145:=Tryz.zeroValue210
 t167:=Tryz.underlying182
 a167:=Tryz.isAgg182
 z167:=Tryz.sizeOf182
 v167:=Tryz.zeroValue182
 t168:=Tryz.underlying185
 a168:=Tryz.isAgg185
 z168:=Tryz.sizeOf185
 v168:=Tryz.zeroValue185
 t171:=Tryz.underlying145
 a171:=Tryz.isAgg145
 z171:=Tryz.sizeOf145
 v171:=Tryz.zeroValue145
 t173:=Tryz.underlying149
 a173:=Tryz.isAgg149
 z173:=Tryz.sizeOf149
 v173:=Tryz.zeroValue149
 t175:=Tryz.underlying197
 a175:=Tryz.isAgg197
 z175:=Tryz.sizeOf197
 v175:=Tryz.zeroValue197
 t210:=Tryz.underlying201
 a210:=Tryz.isAgg201
 z210:=Tryz.sizeOf201
 v210:=Tryz.zeroValue201
 t212:=Tryz.underlying167
 a212:=Tryz.isAgg167
 z212:=Tryz.sizeOf167
 v212:=Tryz.zeroValue167
 t213:=Tryz.underlying169
 a213:=Tryz.isAgg169
 z213:=Tryz.sizeOf169
 t232:=Tryz.underlying195
 a232:=Tryz.isAgg195
 z232:=Tryz.sizeOf195
 v232:=Tryz.zeroValue195
 t233:=Tryz.underlying196
 a233:=Tryz.isAgg196
 z233:=Tryz.sizeOf196
 v233:=Tryz.zeroValue196
 g15:=by kernel_rfl
 g16:=by kernel_rfl
 g17:=by kernel_rfl
 g18:=by kernel_rfl
 g19:=by kernel_rfl }
open Go.RowKit in
def Tryz.strconv_Atoi(s:ByteArray)(n:Int)(hl:s.size<=18)(h:Lib.atoi s.data.toList=some n)(w:World) :
   Calls Tryz.prog 173 #[.string s] w λe w'=>e=.returned (.tuple #[.int .i64 n,.nilIface])/\∃t,w'=Lib.bytesWorld w 5 t:=Any.strconv_Atoi Tryz.alE s n hl h w
def Tryz.VA:Go.Shelf.Ren:=⟨λ| 154=>163 | 138=>180 | 165=>181 | 143=>182 | 166=>183 | 197=>184 | 169=>185 | 195=>198 | 218=>199 | 240=>200 | 241=>201 | 219=>202 | 260=>203 | 276=>217 | 277=>218 | 217=>219 | 225=>220 | 224=>221 | 267=>222 | 266=>230 | 314=>231 | n=>n,λ| 9=>9 | 3=>3 | 4=>4 | 72=>162 | 0=>0 | 76=>154 | 105=>164 | 21=>21 | 5=>5 | 70=>160 | 20=>20 | 37=>52 | 75=>153 | 127=>180 | 164=>188 | 46=>170 | 119=>191 | 139=>194 | 138=>193 | 146=>204 | 51=>168 | 80=>108 | n=>n,λ| 1=>5 | 3=>6 | 4=>7 | n=>n⟩
def Tryz.alD:Go.Proofs.Lays.n154 Tryz.prog Tryz.VA:={
 mixed:=by kernel_rfl
 f138:=Tryz.func180.trans (congrArg some (by kernel_rfl))
 f143:=Tryz.func182.trans (congrArg some (by kernel_rfl))
 f154:=Tryz.func163.trans (congrArg some (by kernel_rfl))
 f165:=Tryz.func181.trans (congrArg some (by kernel_rfl))
 f166:=Tryz.func183.trans (congrArg some (by kernel_rfl))
 f169:=Tryz.func185.trans (congrArg some (by kernel_rfl))
 f195:=Tryz.func198.trans (congrArg some (by kernel_rfl))
 f197:=Tryz.func184.trans (congrArg some (by kernel_rfl))
 f217:=Tryz.func219.trans (congrArg some (by kernel_rfl))
 f218:=Tryz.func199.trans (congrArg some (by kernel_rfl))
 f219:=Tryz.func202.trans (congrArg some (by kernel_rfl))
 f224:=Tryz.func221.trans (congrArg some (by kernel_rfl))
 f225:=Tryz.func220.trans (congrArg some (by kernel_rfl))
 f240:=Tryz.func200.trans (congrArg some (by kernel_rfl))
 f241:=Tryz.func201.trans (congrArg some (by kernel_rfl))
 f260:=Tryz.func203.trans (congrArg some (by kernel_rfl))
 f266:=Tryz.func230.trans (congrArg some (by kernel_rfl))
 f267:=Tryz.func222.trans (congrArg some (by kernel_rfl))
 f276:=Tryz.func217.trans (congrArg some (by kernel_rfl))
 f277:=Tryz.func218.trans (congrArg some (by kernel_rfl))
 f314:=Tryz.func231.trans (congrArg some (by kernel_rfl))
 t0:=Tryz.underlying0
 a0:=Tryz.isAgg0
 z0:=Tryz.sizeOf0
 v0:=Tryz.zeroValue0
 t3:=Tryz.underlying3
 a3:=Tryz.isAgg3
 z3:=Tryz.sizeOf3
 v3:=Tryz.zeroValue3
 t4:=Tryz.underlying4
 a4:=Tryz.isAgg4
 z4:=Tryz.sizeOf4
 v4:=Tryz.zeroValue4
 t5:=Tryz.underlying5
 a5:=Tryz.isAgg5
 z5:=Tryz.sizeOf5
 v5:=Tryz.zeroValue5
 t9:=Tryz.underlying9
 a9:=Tryz.isAgg9
 z9:=Tryz.sizeOf9
 v9:=Tryz.zeroValue9
 t20:=Tryz.underlying20
 a20:=Tryz.isAgg20
 z20:=Tryz.sizeOf20
 v20:=Tryz.zeroValue20
 t21:=Tryz.underlying21
 a21:=Tryz.isAgg21
 z21:=Tryz.sizeOf21
 v21:=Tryz.zeroValue21
 t37:=Tryz.underlying52
 a37:=Tryz.isAgg52
 z37:=Tryz.sizeOf52
 v37:=Tryz.zeroValue52
 t46:=Tryz.underlying170
 a46:=Tryz.isAgg170
 z46:=Tryz.sizeOf170
 v46:=Tryz.zeroValue170
 t51:=Tryz.underlying168
 a51:=Tryz.isAgg168
 z51:=Tryz.sizeOf168
 v51:=Tryz.zeroValue168
 t70:=Tryz.underlying160
 a70:=Tryz.isAgg160
 z70:=Tryz.sizeOf160
 v70:=Tryz.zeroValue160
 t72:=Tryz.underlying162
 a72:=Tryz.isAgg162
 z72:=Tryz.sizeOf162
 v72:=Tryz.zeroValue162
 t75:=Tryz.underlying153
 a75:=Tryz.isAgg153
 z75:=Tryz.sizeOf153
 v75:=Tryz.zeroValue153
 t76:=Tryz.underlying154
 a76:=Tryz.isAgg154
 z76:=Tryz.sizeOf154
 v76:=Tryz.zeroValue154
 t105:=Tryz.underlying164
 a105:=Tryz.isAgg164
 z105:=Tryz.sizeOf164
 v105:=Tryz.zeroValue164
 t119:=Tryz.underlying191
 a119:=Tryz.isAgg191
 z119:=Tryz.sizeOf191
 t127:=Tryz.underlying180
 a127:=Tryz.isAgg180
 z127:=Tryz.sizeOf180
 v127:=Tryz.zeroValue180
 t138:=Tryz.underlying193
 a138:=Tryz.isAgg193
 z138:=Tryz.sizeOf193
 v138:=Tryz.zeroValue193
 t139:=Tryz.underlying194
 a139:=Tryz.isAgg194
 z139:=Tryz.sizeOf194
 v139:=Tryz.zeroValue194
 t146:=Tryz.underlying204
 a146:=Tryz.isAgg204
 z146:=Tryz.sizeOf204
 v146:=Tryz.zeroValue204
 t164:=Tryz.underlying188
 a164:=Tryz.isAgg188
 z164:=Tryz.sizeOf188
 v164:=Tryz.zeroValue188
 g1:=by kernel_rfl
 g3:=by kernel_rfl
 g4:=by kernel_rfl }
def Tryz.Tz:Builder.Extra Tryz.prog Tryz.VA:={
 sizeBuilder:=by kernel_rfl
 liesBuilder:=by kernel_rfl
 t5:=Tryz.underlying5
 a5:=Tryz.isAgg5
 z5:=Tryz.sizeOf5
 v5:=Tryz.zeroValue5
 infoByte:=by kernel_rfl
 cellsByte:=by kernel_rfl
 sizeByte:=by kernel_rfl
 neB5:=by decide }
open Go.RowKit Go.Lib in
def Tryz.strings_Replace(s old new:ByteArray)(n:Int)(m:Int)(w:World)(hs:s.size < 4294967281)(hm:w.cell? ⟨5,0,none⟩=some (.int .i64 m))(h1:1<=old.size)(hlen:s.size+Lib.countB s old*new.size<=140737488355328) :
   Calls Tryz.prog 163 #[.string s,.string old,.string new,.int .i64 n] w λe w' =>
     e=.returned (.string ⟨(Lib.replace s.data.toList old.data.toList new.data.toList n).toArray⟩)/\Below w.heap.size w w':=Any.strings_Replace Tryz.alD Tryz.Tz s old new n m w hs hm h1 hlen
end Go.Proofs
namespace Go.Proofs.YtpbkhogolfegfaaGreatDoor
open AI Go LexS
def Ge(s:List UInt8):AV:=.sc (.string ⟨s.toArray⟩)
namespace Hd
def ajI:List AV:=(List.range 128).map λi=>.sc (.int .u8 (Q4 i:Nat))
def anZ:List AV:=Gf.map Ge
def int(n:Int):AV:=.sc (.int .i64 n)
def aoQ(n:Int):AV:=.sc (.int .u64 n)
def G(mx:Int):A6:=λg =>
 match Nat.beq g 2 with
 | true=>some [Ge [111,114],Ge [],Ge [],Ge [],Ge [],Ge [],Ge [97,110,100],Ge [],Ge [],Ge [],Ge [],Ge [],Ge [],Ge [],Ge [],Ge [],Ge [],Ge [],Ge [61,61],Ge [33,61],Ge [60],Ge [60,61],Ge [62],Ge [62,61],Ge [43],Ge [45],Ge [],Ge [],Ge [],Ge [],Ge [42],Ge [47],Ge [97,116],Ge [],Ge [],Ge []]
 | false=>match Nat.beq g 1 with
   | true=>some [Ge [],Ge [101,97,114,110],Ge [100,101,100,117,99,116],Ge [102,108,111,111,114],Ge [105,110,102,111]]
   | false=>match Nat.beq g 12 with
     | true=>some [int 0,int 31,int 59,int 90,int 120,int 151,int 181,int 212,int 243,int 273,int 304,int 334,int 365]
     | false=>match Nat.beq g 3 with
       | true=>some ajI
       | false=>match Nat.beq g 0 with
         | true=>some anZ
         | false=>match Nat.beq g 5 with
           | true=>some [int mx]
           | false=>match Nat.beq g 4 with
             | true=>some (Lib.pow10Tab.map aoQ)
             | false=>none
variable {mx:Int}
def mixed:Tryz.prog.follows .mixedOrders=true:=by kernel_rfl
def XW:∀l:List (List UInt8),BA (l.map Ge)=true
 | []=>rfl
 | s::l=>by
   show(true&&BA (l.map Ge))=true;rw[XW l];rfl
def hP:∀l:List Nat,BA (l.map λi=>(.sc (.int .u8 (Q4 i:Nat)):AV))=true
 | []=>rfl
 | s::l=>by
   show(true&&BA (l.map λi=>(.sc (.int .u8 (Q4 i:Nat)):AV)))=true;rw[hP l];rfl
def ZB:∀l:List Int,BA (l.map aoQ)=true
 | []=>rfl
 | s::l=>by
   show(true&&BA (l.map aoQ))=true;rw[ZB l];rfl
def Ab(g:Nat)(cs:List AV)(h:G mx g=some cs):BA cs=true:=by
 unfold G at h;split at h;cases h;rfl;split at h;cases h;rfl;split at h;cases h;rfl;split at h;cases h;exact hP _;split at h;cases h;exact XW _;split at h;cases h;rfl;split at h;cases h;exact ZB _;cases h
end Hd
end Go.Proofs.YtpbkhogolfegfaaGreatDoor
namespace Go.Proofs.YtpbkhogolfegfaaGreatDoor
open AI Go
namespace Mo
abbrev P:Program:=Tryz.prog
abbrev G(mx:Int):A6:=Hd.G mx
variable {G0:A6}
def Wl{i n:Nat}(h:i < n):EK ((i:Nat):Int) ((n:Nat):Int)=true:=by rw[Rf];simp;exact h
def dM{i n:Nat}(h:n<=i):EK ((i:Nat):Int) ((n:Nat):Int)=false:=by rw[Rf];simp;omega
def Fo{a b:Int}(h:DV a b=true):a=b:=by rw[Q6] at h;simpa using h
def Zd{a b:Int}(h:DV a b=false):a≠b:=by rw[Q6] at h;simpa using h
def acN{a b:Int}(h:SV a b=false):b < a:=by rw[XG] at h;have:=of_decide_eq_false h;omega
def XM{a b:Int}(h:EK a b=true):a < b:=by rw[Rf] at h;exact of_decide_eq_true h
def Kj{a b:Int}(h:EK a b=false):b<=a:=by rw[Rf] at h;have:=of_decide_eq_false h;omega
def Ak{β:Type}{b:Bool}{t f:Option β}{r:β}{X:Prop}(h1:b=true->t=some r->X)(h2:b=false->f=some r->X):cond b t f=some r->X:=λh=>(aGG h).elim (λx=>h1 x.1 x.2) λx=>h2 x.1 x.2
def AA{β κ:Type}{m:Option κ}{k:κ->Option β}{r:β}{X:Prop}(h1:∀y,m=some y->k y=some r->X):m.bind k=some r->X:=λh=>(eG h).elim λy x=>h1 y x.1 x.2
def Nj{β:Type}{n:Nat}{x:Option β}{r:β}{X:Prop}(h1:n<=100000000->x=some r->X):OE n x=some r->X:=λh=>h1 (acX h).1 (acX h).2
def bN{β:Type}{r:β}{X:Prop}:(none:Option β)=some r->X:=λh=>nomatch h
def N5{a b:Int}(h:a=b):DV a b=true:=by rw[Q6];simpa using h
def Sj{a b:Int}(h:a≠b):DV a b=false:=by rw[Q6];simpa using h
def acO{a b:Int}(h:a<=b):SV a b=true:=by rw[XG];exact decide_eq_true h
def qE{a b:Int}(h:b < a):SV a b=false:=by rw[XG];exact decide_eq_false (by omega)
def Nl{a b:Int}(h:a < b):EK a b=true:=by rw[Rf];exact decide_eq_true h
def Kk{a b:Int}(h:b<=a):EK a b=false:=by rw[Rf];exact decide_eq_false (by omega)
def N4{a b:ByteArray}(h:BY a.data.toList b.data.toList=true):a=b:=by
 rw[UK] at h;exact ByteArray.ext (Array.ext' (eq_of_beq h))
def aaD{a b:ByteArray}(h:BY a.data.toList b.data.toList=false):a≠b:=λe=>by
 subst e;rw[UK] at h;simp at h
def fq{n m:Nat}{a:AV}(h:plain a=true):FP n m:=⟨a,a,.plain h⟩
def fbp{n m:Nat}(a:List AV)(h:BA a=true):FB n m:=⟨.cells a,.cells a,.cells (.plain h)⟩
def aBJ{n:Nat}{l:List AV}(h:BA l=true):plain (.sl .lost n l)=true:=by simp only[plain,h];rfl
def VF{n:Nat}{l:List AV}(h:BA l=true):plain (.sl .full n l)=true:=by simp only[plain,h];rfl
def cT{n m r sz k:Nat}{l:List AV}(h:decide (r < m)=true)(t:Fh n m l=true):under n m (.sl (.row r sz) k l)=true:=by simp only[under,h,t];rfl
def inC(x:Int):List AV:=[.sc (.int .i64 x)]
def u8C(x:Int):List AV:=[.sc (.int .u8 x)]
def stC(x:ByteArray):List AV:=[.sc (.string x)]
def avV:Ou inC (rows inC) 1:=⟨λ_=>rfl,λ_=>rfl,λ_=>rfl⟩
structure Pc where
 fr:Int
 AF:Int
 L4:Int
def Hz(x:Pc):List AV:=[.sc (.int .i64 x.fr),.sc (.int .i64 x.AF),.sc (.int .i64 x.L4)]
def KL:Ou Hz (rows Hz) 3:=⟨λ_=>rfl,λ_=>rfl,λx=>(BE rfl (BE rfl (BE rfl rfl)))⟩
structure Pt where
 fr:Int
 AF:Int
 num:Int
 den:Int
def Ws(x:Pt):List AV:=[.sc (.int .i64 x.fr),.sc (.int .i64 x.AF),.sc (.int .i64 x.num),.sc (.int .i64 x.den)]
def O9:Ou Ws (rows Ws) 4:=⟨λ_=>rfl,λ_=>rfl,λx=>(BE rfl (BE rfl (BE rfl (BE rfl rfl))))⟩
structure Fn where
 den:Int
 ps:(List Pc)
def pF(x:Fn):List AV:=[.sc (.int .i64 x.den),.sl .lost x.ps.length (rows Hz x.ps)]
def gF:Ou pF (rows pF) 2:=⟨λ_=>rfl,λ_=>rfl,λx=>(BE rfl (BE (KL.Kr x.ps) rfl))⟩
structure Nd where
 kind:Int
 name:ByteArray
 unit:ByteArray
 n:Int
 fr:Int
 to:Int
 known:Int
 CJ:Fn
 kids:(List Nd)
 AF:Int
mutual
def ndK:Nd->List AV
 | ⟨kind,name,unit,n,fr,to,known,CJ,kids,AF⟩=>[.sc (.int .i64 kind),.sc (.string name),.sc (.string unit),.sc (.int .i64 n),.sc (.int .i64 fr),.sc (.int .i64 to),.sc (.int .i64 known),.sc (.int .i64 CJ.den),.sl .lost CJ.ps.length (rows Hz CJ.ps),.sl .lost kids.length (Bd kids),.sc (.int .i64 AF)]
def Bd:List Nd->List AV
 | []=>[]
 | k::ks=>ndK k++Bd ks
end
def CF(x:Nd):List AV:=[.sc (.int .i64 x.kind),.sc (.string x.name),.sc (.string x.unit),.sc (.int .i64 x.n),.sc (.int .i64 x.fr),.sc (.int .i64 x.to),.sc (.int .i64 x.known),.sc (.int .i64 x.CJ.den),.sl .lost x.CJ.ps.length (rows Hz x.CJ.ps),.sl .lost x.kids.length (Bd x.kids),.sc (.int .i64 x.AF)]
def adH(x:Nd):ndK x=CF x:=by cases x;rfl
def Lv(l:List Nd):Bd l=rows CF l:=by
 induction l with
 | nil=>rfl
 | cons k ks ih=>rw[Gc,Bd,ih,adH]
mutual
def adI:∀x:Nd,BA (ndK x)=true
 | ⟨kind,name,unit,n,fr,to,known,CJ,kids,AF⟩=>by rw[ndK];exact(BE rfl (BE rfl (BE rfl (BE rfl (BE rfl (BE rfl (BE rfl (BE rfl (BE (KL.Kr CJ.ps) (BE (aBJ (qP kids)) (BE rfl rfl)))))))))))
def qP:∀l:List Nd,BA (Bd l)=true
 | []=>rfl
 | k::ks=>by rw[Bd];exact arR (adI k) (qP ks)
end
def AB:Ou CF Bd 11:=⟨Lv,λ_=>rfl,λx=>by rw[<- adH];exact adI x⟩
structure Ex where
 op:Int
 n:Int
 unit:ByteArray
 CJ:Fn
 kids:(List Ex)
mutual
def exK:Ex->List AV
 | ⟨op,n,unit,CJ,kids⟩=>[.sc (.int .i64 op),.sc (.int .i64 n),.sc (.string unit),.sc (.int .i64 CJ.den),.sl .lost CJ.ps.length (rows Hz CJ.ps),.sl .lost kids.length (ajS kids)]
def ajS:List Ex->List AV
 | []=>[]
 | k::ks=>exK k++ajS ks
end
mutual
def atN:∀x:Ex,BA (exK x)=true
 | ⟨op,n,unit,CJ,kids⟩=>by rw[exK];exact(BE rfl (BE rfl (BE rfl (BE rfl (BE (KL.Kr CJ.ps) (BE (aBJ (pD kids)) rfl))))))
def pD:∀l:List Ex,BA (ajS l)=true
 | []=>rfl
 | k::ks=>by rw[ajS];exact arR (atN k) (pD ks)
end
structure Ar where
 number:Int
 line:Int
 aLH:Int
 fr:Int
 to:Int
 known:Int
 wh:(List Ex)
 un:(List Int)
 am:Ex
structure Dc where
 name:ByteArray
 unit:ByteArray
 aLI:Int
structure Co where
 facts:(List Dc)
 lines:(List Dc)
 aKX:(List Ar)
structure Tk where
 kind:Int
 text:ByteArray
 AF:Int
def Ii(x:Tk):List AV:=[.sc (.int .i64 x.kind),.sc (.string x.text),.sc (.int .i64 x.AF)]
def DZ:Ou Ii (rows Ii) 3:=⟨λ_=>rfl,λ_=>rfl,λx=>(BE rfl (BE rfl (BE rfl rfl)))⟩
structure Dg where
 err:Int
 AF:Int
def O3(x:Dg):List AV:=[.sc (.int .i64 x.err),.sc (.int .i64 x.AF)]
def Ch:Ou O3 (rows O3) 2:=⟨λ_=>rfl,λ_=>rfl,λx=>(BE rfl (BE rfl rfl))⟩
structure Pr where
 Bq:(List Tk)
 Jr:Int
 Dy:Int
def Qu(x:Pr):List AV:=[.sl .lost x.Bq.length (rows Ii x.Bq),.sc (.int .i64 x.Jr),.sc (.int .i64 x.Dy)]
def CI:Ou Qu (rows Qu) 3:=⟨λ_=>rfl,λ_=>rfl,λx=>(BE (DZ.Kr x.Bq) (BE rfl (BE rfl rfl)))⟩
structure Ps where
 l:(List Tk)
 at_:Int
 end_:Int
 err:Int
 aKT:Int
structure Ck where
 nodes:Int
def IZ(x:Ck):List AV:=[.sc (.int .i64 x.nodes)]
def Qq:Ou IZ (rows IZ) 1:=⟨λ_=>rfl,λ_=>rfl,λx=>(BE rfl rfl)⟩
structure Cq where
 src:Nd
 aKR:(List Dg)
structure Ft where
 azD:Co
 lines:(Mm Int Int)
 nodes:Int
structure Sc where
 facts:(Mm ByteArray ByteArray)
 lines:(Mm ByteArray ByteArray)
 yB:(Mm Int ByteArray)
structure Tr where
 azD:Co
 facts:(Mm ByteArray Int)
 lines:(Mm ByteArray Int)
 yB:(Mm Int Int)
def u24:P.underlying 24=some (.slice 64):=by kernel_rfl
def s64:(P.info? 64).map (·.size)=some 3:=by kernel_rfl
def i64:(P.info? 64).map (λi=>(i.size,i.bytes,i.zero.map (·.cells.size)))=some (3,24,some 3):=by kernel_rfl
def VW(own:AI.Own){l:List Pc}{i:Nat}{x:Pc}(h:l[i]?=some x):C7 P 24 (.sl own l.length (rows Hz l)) (.sc (.int .i64 ((i:Nat):Int)))=some (.el (Hz x++rows Hz (l.drop (i+1)))):=KL.ix u24 s64 own h
def aAT(own:AI.Own){l:List Pc}{z:Int}{x:Pc}(h:L9 l z=some x):C7 P 24 (.sl own l.length (rows Hz l)) (.sc (.int .i64 z))=some (.el (Hz x++rows Hz (l.drop (z.toNat+1)))):=KL.ixz u24 s64 own h
def azP(own:AI.Own)(l m:List Pc){o:AI.Own}{n:Nat}{ns:List AV}(hn:Wn ns (rows Hz m))(mE:n=m.length)(ho:ns.all one=true)(hm:m.length≠0)(hlen:l.length+m.length<=100000000):Cd.ok P G0 (.Zg 24 24 own l.length (rows Hz l) (.sl o n ns) 3 (l++m).length (rows Hz (l++m))):=KL.Zg u24 u24 i64 (by decide) (by decide) own l m hn mE ho hm hlen
def aGW(own:AI.Own)(l m:List Pc){o:AI.Own}(s:AS)(hm:m.length=0)(hlen:l.length+m.length<=100000000):Cd.ok P G0 (.Tx s 24 24 (.sl own l.length (rows Hz l)) (.sl o m.length (rows Hz m)) (.sl own l.length (rows Hz l)) s):=KL.ga u24 u24 i64 (by decide) (by decide) own l m s hm hlen
def u27:P.underlying 27=some (.slice 29):=by kernel_rfl
def s29:(P.info? 29).map (·.size)=some 11:=by kernel_rfl
def i29:(P.info? 29).map (λi=>(i.size,i.bytes,i.zero.map (·.cells.size)))=some (11,136,some 11):=by kernel_rfl
def I0(own:AI.Own){l:List Nd}{i:Nat}{x:Nd}(h:l[i]?=some x):C7 P 27 (.sl own l.length (Bd l)) (.sc (.int .i64 ((i:Nat):Int)))=some (.el (CF x++Bd (l.drop (i+1)))):=AB.ix u27 s29 own h
def Sn(own:AI.Own)(l m:List Nd){o:AI.Own}{n:Nat}{ns:List AV}(hn:Wn ns (Bd m))(mE:n=m.length)(ho:ns.all one=true)(hm:m.length≠0)(hlen:l.length+m.length<=100000000):Cd.ok P G0 (.Zg 27 27 own l.length (Bd l) (.sl o n ns) 11 (l++m).length (Bd (l++m))):=AB.Zg u27 u27 i29 (by decide) (by decide) own l m hn mE ho hm hlen
def aaT(own:AI.Own)(l m:List Nd){o:AI.Own}{n:Nat}{ns cs:List AV}(e:cs=Bd l)(hn:Wn ns (Bd m))(mE:n=m.length)(ho:ns.all one=true)(hm:m.length≠0)(hlen:l.length+m.length<=100000000):Cd.ok P G0 (.Zg 27 27 own l.length cs (.sl o n ns) 11 (l++m).length (Bd (l++m))):=e▸Sn own l m hn mE ho hm hlen
def azO(own:AI.Own)(l m:List Nd){o:AI.Own}(hm:¬m.length=0)(hlen:l.length+m.length<=100000000):Cd.ok P G0 (.Zg 27 27 own l.length (Bd l) (.sl o m.length (Bd m)) 11 (l++m).length (Bd (l++m))):=AB.Zg u27 u27 i29 (by decide) (by decide) own l m (Wn.refl _) rfl (AB.kY (λ_=>rfl) m) hm hlen
def ayS(m:List Nd){o:AI.Own}(hm:¬m.length=0)(hlen:m.length<=100000000):Cd.ok P G0 (.apB 27 27 (.sl .full 0 []) (.sl o m.length (Bd m)) m.length (.cells (Bd m))):=AB.apm u27 u27 i29 (by decide) (by decide) (λ_=>rfl) m hm hlen
def aGX(own:AI.Own)(l m:List Nd){o:AI.Own}(s:AS)(hm:m.length=0)(hlen:l.length+m.length<=100000000):Cd.ok P G0 (.Tx s 27 27 (.sl own l.length (Bd l)) (.sl o m.length (Bd m)) (.sl own l.length (Bd l)) s):=AB.ga u27 u27 i29 (by decide) (by decide) own l m s hm hlen
def u30:P.underlying 30=some (.slice 45):=by kernel_rfl
def s45:(P.info? 45).map (·.size)=some 2:=by kernel_rfl
def i45:(P.info? 45).map (λi=>(i.size,i.bytes,i.zero.map (·.cells.size)))=some (2,16,some 2):=by kernel_rfl
def akY(own:AI.Own){l:List Dg}{i:Nat}{x:Dg}(h:l[i]?=some x):C7 P 30 (.sl own l.length (rows O3 l)) (.sc (.int .i64 ((i:Nat):Int)))=some (.el (O3 x++rows O3 (l.drop (i+1)))):=Ch.ix u30 s45 own h
def azQ(own:AI.Own)(l m:List Dg){o:AI.Own}{n:Nat}{ns:List AV}(hn:Wn ns (rows O3 m))(mE:n=m.length)(ho:ns.all one=true)(hm:m.length≠0)(hlen:l.length+m.length<=100000000):Cd.ok P G0 (.Zg 30 30 own l.length (rows O3 l) (.sl o n ns) 2 (l++m).length (rows O3 (l++m))):=Ch.Zg u30 u30 i45 (by decide) (by decide) own l m hn mE ho hm hlen
def u38:P.underlying 38=some (.slice 43):=by kernel_rfl
def s43:(P.info? 43).map (·.size)=some 3:=by kernel_rfl
def acI(own:AI.Own){l:List Tk}{z:Int}{x:Tk}(h:L9 l z=some x):C7 P 38 (.sl own l.length (rows Ii l)) (.sc (.int .i64 z))=some (.el (Ii x++rows Ii (l.drop (z.toNat+1)))):=DZ.ixz u38 s43 own h
def aoP:P.underlying 174=some (.slice 176):=by kernel_rfl
def aBU:(P.info? 176).map (·.size)=some 4:=by kernel_rfl
def i176:(P.info? 176).map (λi=>(i.size,i.bytes,i.zero.map (·.cells.size)))=some (4,32,some 4):=by kernel_rfl
def aAS(own:AI.Own){l:List Pt}{i:Nat}{x:Pt}(h:l[i]?=some x):C7 P 174 (.sl own l.length (rows Ws l)) (.sc (.int .i64 ((i:Nat):Int)))=some (.el (Ws x++rows Ws (l.drop (i+1)))):=O9.ix aoP aBU own h
def avS(own:AI.Own){l:List Pt}{z:Int}{x:Pt}(h:L9 l z=some x):C7 P 174 (.sl own l.length (rows Ws l)) (.sc (.int .i64 z))=some (.el (Ws x++rows Ws (l.drop (z.toNat+1)))):=O9.ixz aoP aBU own h
def atY(own:AI.Own)(l m:List Pt){o:AI.Own}{n:Nat}{ns:List AV}(hn:Wn ns (rows Ws m))(mE:n=m.length)(ho:ns.all one=true)(hm:m.length≠0)(hlen:l.length+m.length<=100000000):Cd.ok P G0 (.Zg 174 174 own l.length (rows Ws l) (.sl o n ns) 4 (l++m).length (rows Ws (l++m))):=O9.Zg aoP aoP i176 (by decide) (by decide) own l m hn mE ho hm hlen
def s3:(P.info? 3).map (·.size)=some 1:=by kernel_rfl
def i3:(P.info? 3).map (λi=>(i.size,i.bytes,i.zero.map (·.cells.size)))=some (1,8,some 1):=by kernel_rfl
def arF{id n i:Nat}(h:i < n):C7 P 27 (.msl id 0 n) (.sc (.int .i64 ((i:Nat):Int)))=some (.ptr id (0+i*11)):=AB.ixm u27 s29 h
def w64(x:Int):Int:=IntKind.i64.wrap x
def wU(x y:Int):Int:=IntKind.i64.wrap (x.tdiv y)
def jM(x y:Int):Int:=x.tmod y
def RX(x y:Int):Option Int:=if y=0 then none else some (wU x y)
def Xb(x y:Int):Option Int:=if y=0 then none else some (jM x y)
def afQ{α:Type}(s:List α)(l h:Int):Option (List α):=if 0<=l/\l<=h/\h<=((s.length:Nat):Int) then some ((s.drop l.toNat).take (h.toNat - l.toNat)) else none
def xZ(z:Int)(h:0<=z):QC (.sc (.int .i64 z))=some z.toNat:=by unfold QC;simp[h]
def P4{a b c:Int}(h:RX a b=some c)(x y:Operand):L7 P .quo 3 x y (.sc (.int .i64 a)) (.sc (.int .i64 b))=some (.sc (.int .i64 c)):=by
 unfold RX at h;split at h;cases h;rename_i hb;cases h;simp[L7,Sd,Ul,eqGuard,binOp,Op.intDiv,hb,AI.pv,YX,scalar,wU,Bind.bind,Sem.bind,Pure.pure]
def cB{a b c:Int}(h:Xb a b=some c)(x y:Operand):L7 P .rem 3 x y (.sc (.int .i64 a)) (.sc (.int .i64 b))=some (.sc (.int .i64 c)):=by
 unfold Xb at h;split at h;cases h;rename_i hb;cases h;simp[L7,Sd,Ul,eqGuard,binOp,Op.intDiv,hb,AI.pv,YX,scalar,jM,Bind.bind,Sem.bind,Pure.pure]
def us9:P.underlying 9=some .string:=by kernel_rfl
def XA{s:ByteArray}{i:Nat}{c:UInt8}(h:s.data.toList[i]?=some c):K9 P 9 (.sc (.string s)) (.sc (.int .i64 ((i:Nat):Int)))=some (.sc (.int .u8 ((c.toNat:Nat):Int))):=by
 unfold K9;rw[us9,xZ _ (by omega)];simp only[Int.toNat_natCast,h]
def anY(l h:Nat){s:List Nd}(h1:l<=h)(h2:h<=s.length)(lo hi:Option AV)(e1:Ov 0 lo=some l)(e2:Ov s.length hi=some h):M1 P 27 (.sl .lost s.length (Bd s)) lo hi none=some (.sl .lost ((s.drop l).take (h - l)).length (Bd ((s.drop l).take (h - l)))):=AB.sub u27 s29 l h h1 h2 lo hi e1 e2
def rX{s v:List Nd}{l:Int}(e:afQ s l ((s.length:Nat):Int)=some v):M1 P 27 (.sl .lost s.length (Bd s)) (some (.sc (.int .i64 l))) (none) none=some (.sl .lost v.length (Bd v)):=by
 unfold afQ at e;split at e;rename_i hc;cases e;exact anY _ _ (by omega) (by omega) _ _ (xZ l hc.1) rfl;cases e
def OO(x y:Pc):Bool:=x.fr == y.fr&&(x.AF == y.AF&&(x.L4 == y.L4))
def nU(x y:Pc):YG [.int .i64 x.fr,.int .i64 x.AF,.int .i64 x.L4] [.int .i64 y.fr,.int .i64 y.AF,.int .i64 y.L4]=some (OO x y):=by
 simp only[YG,fEq,OO,if_true,Option.bind_some];cases (x.fr == y.fr)<;>cases (x.AF == y.AF)<;>cases (x.L4 == y.L4)<;>rfl
def atT:Flat P 64 [1,1,1]:=⟨by kernel_rfl,by kernel_rfl,by kernel_rfl,by kernel_rfl,by kernel_rfl,by kernel_rfl⟩
def Zu{x y:Pc}{b:Bool}(h:OO x y=b)(ox oy:Operand):L7 P .neq 64 ox oy (.agg (Hz x)) (.agg (Hz y))=some (.sc (.bool (!b))):=by
 subst h;exact(atT.bin (us:=[.int .i64 x.fr,.int .i64 x.AF,.int .i64 x.L4]) (vs:=[.int .i64 y.fr,.int .i64 y.AF,.int .i64 y.L4]) ⟨.inl ⟨_,rfl,rfl⟩,⟨.inl ⟨_,rfl,rfl⟩,⟨.inl ⟨_,rfl,rfl⟩,trivial⟩⟩⟩ ⟨.inl ⟨_,rfl,rfl⟩,⟨.inl ⟨_,rfl,rfl⟩,⟨.inl ⟨_,rfl,rfl⟩,trivial⟩⟩⟩ (nU x y) ox oy).2
def cI(x y:Dg):Bool:=x.err == y.err&&(x.AF == y.AF)
def nS(x y:Dg):YG [.int .i64 x.err,.int .i64 x.AF] [.int .i64 y.err,.int .i64 y.AF]=some (cI x y):=by
 simp only[YG,fEq,cI,if_true,Option.bind_some];cases (x.err == y.err)<;>cases (x.AF == y.AF)<;>rfl
def atQ:Flat P 45 [1,1]:=⟨by kernel_rfl,by kernel_rfl,by kernel_rfl,by kernel_rfl,by kernel_rfl,by kernel_rfl⟩
def arM{x y:Dg}{b:Bool}(h:cI x y=b)(ox oy:Operand):L7 P .neq 45 ox oy (.agg (O3 x)) (.agg (O3 y))=some (.sc (.bool (!b))):=by
 subst h;exact(atQ.bin (us:=[.int .i64 x.err,.int .i64 x.AF]) (vs:=[.int .i64 y.err,.int .i64 y.AF]) ⟨.inl ⟨_,rfl,rfl⟩,⟨.inl ⟨_,rfl,rfl⟩,trivial⟩⟩ ⟨.inl ⟨_,rfl,rfl⟩,⟨.inl ⟨_,rfl,rfl⟩,trivial⟩⟩ (nS x y) ox oy).2
def beforeL:List Int:=[0,31,59,90,120,151,181,212,243,273,304,334,365]
def mP{z:Int}{x:Int}(h:L9 beforeL z=some x):C7 P 203 (.el (rows inC beforeL)) (.sc (.int .i64 z))=some (.el (inC x++rows inC (beforeL.drop (z.toNat+1)))):=avV.ixa (elem:=3) (len:=13) (by kernel_rfl) (by kernel_rfl) rfl h
def aDE{a b:ByteArray}{q:Bool}(h:some (BY a.data.toList b.data.toList)=some q)(x y:Operand):L7 P .eql 9 x y (.sc (.string a)) (.sc (.string b))=some (.sc (.bool q)):=by
 rw[<- TG];cases h
 kernel_rfl
def aDF{a b:Int}{q:Bool}(h:some (SV a b)=some q)(x y:Operand):L7 P .leq 3 x y (.sc (.int .i64 a)) (.sc (.int .i64 b))=some (.sc (.bool q)):=by
 rw[<- TG];cases h
 kernel_rfl
def Kf:ByteArray:=⟨#[33,61]⟩
def bY:ByteArray:=⟨#[40]⟩
def nK:ByteArray:=⟨#[41]⟩
def S9:ByteArray:=⟨#[42]⟩
def Rj:ByteArray:=⟨#[43]⟩
def bZ:ByteArray:=⟨#[44]⟩
def ML:ByteArray:=⟨#[45]⟩
def awX:ByteArray:=⟨#[46]⟩
def E4:ByteArray:=⟨#[47]⟩
def iD:ByteArray:=⟨#[58]⟩
def V1:ByteArray:=⟨#[59]⟩
def Kv:ByteArray:=⟨#[60]⟩
def JN:ByteArray:=⟨#[60,61]⟩
def Jj:ByteArray:=⟨#[61,61]⟩
def JO:ByteArray:=⟨#[62]⟩
def Hc:ByteArray:=⟨#[62,61]⟩
def aS:ByteArray:=⟨#[97]⟩
def L1:ByteArray:=⟨#[97,32,60,32,98,32,60,32,99]⟩
def EE:ByteArray:=⟨#[97,32,62,32,51,32,97,110,100,32,110,111,116,32,98,32,61,61,32,99]⟩
def PH:ByteArray:=⟨#[97,109,111,117,110,116]⟩
def OY:ByteArray:=⟨#[97,110,100]⟩
def aD:ByteArray:=⟨#[97,114,116]⟩
def Hq:ByteArray:=⟨#[97,114,116,105,99,108,101]⟩
def eE:ByteArray:=⟨#[97,116]⟩
def bS:ByteArray:=⟨#[98]⟩
def cS:ByteArray:=⟨#[99]⟩
def aL:ByteArray:=⟨#[100,97,121]⟩
def Ls:ByteArray:=⟨#[100,101,100,117,99,116]⟩
def Si:ByteArray:=⟨#[101,97,114,110]⟩
def Sk:ByteArray:=⟨#[102,97,99,116]⟩
def Eb:ByteArray:=⟨#[102,97,99,116,32,114,97,116,101,32,58,32,69,85,82,32,108,105,110,101,32,120]⟩
def SN:ByteArray:=⟨#[102,97,108,115,101]⟩
def OA:ByteArray:=⟨#[102,108,111,111,114]⟩
def aaM:ByteArray:=⟨#[102,111,114]⟩
def pI:ByteArray:=⟨#[102,114,111,109]⟩
def Fx:ByteArray:=⟨#[103,114,101,97,116,101,115,116]⟩
def Eo:ByteArray:=⟨#[104,111,117,114,115,32,97,116,32,114,97,116,101,32,43,32,97,114,116,32,51]⟩
def Sw:ByteArray:=⟨#[105,110,102,111]⟩
def US:ByteArray:=⟨#[107,110,111,119,110]⟩
def Kc:ByteArray:=⟨#[108,101,97,115,116]⟩
def N9:ByteArray:=⟨#[108,105,110,101]⟩
def At:ByteArray:=⟨#[108,105,110,101,32,112,97,121,32,58,32,69,85,82,32,101,97,114,110,59,32,97,114,116,105,99,108,101,32,51,32,102,111,114,32,112,97,121,32,114,97,110,107,32,49,32,102,114,111,109,32,50,48,50,52,45,48,49,45,48,49,32,107,110,111,119,110,32,50,48,50,52,45,48,49,45,48,49,32,123,32,97,109,111,117,110,116,32,69,85,82,32,49,46,53,48,59,32,125]⟩
def alK:ByteArray:=⟨#[109,105,110]⟩
def Je:ByteArray:=⟨#[109,105,110,117,116,101,115]⟩
def PW:ByteArray:=⟨#[109,111,110,116,104]⟩
def T5:ByteArray:=⟨#[110,111,116]⟩
def Ep:ByteArray:=⟨#[110,117,109,98,101,114]⟩
def gW:ByteArray:=⟨#[111,114]⟩
def rF:ByteArray:=⟨#[114,97,110,107]⟩
def Qc:ByteArray:=⟨#[116,97,98,108,101]⟩
def BC:ByteArray:=⟨#[116,97,98,108,101,40,120,59,32,48,32,58,32,48,46,48,48,32,43,32,49,47,49,48,44,32,53,48,48,46,48,48,32,58,32,53,48,46,48,48,32,43,32,49,47,52,41]⟩
def toS:ByteArray:=⟨#[116,111]⟩
def Yj:ByteArray:=⟨#[116,114,117,101]⟩
def GH:ByteArray:=⟨#[116,114,117,116,104]⟩
def RM:ByteArray:=⟨#[117,110,108,101,115,115]⟩
def K0:ByteArray:=⟨#[119,101,101,107,100,97,121]⟩
def Z2:ByteArray:=⟨#[119,104,101,110]⟩
def UB:ByteArray:=⟨#[121,101,97,114]⟩
def awY:ByteArray:=⟨#[123]⟩
def amL:ByteArray:=⟨#[125]⟩
end Mo
end Go.Proofs.YtpbkhogolfegfaaGreatDoor
namespace Go.Proofs.YtpbkhogolfegfaaGreatDoor
open AI Go
namespace Mo
set_option maxRecDepth 100000
set_option maxHeartbeats 4000000
def awM(x:Pc):Prop:=(-9223372036854775808<=x.fr/\x.fr<=9223372036854775807)/\(-9223372036854775808<=x.AF/\x.AF<=9223372036854775807)/\(-9223372036854775808<=x.L4/\x.L4<=9223372036854775807)
def nE(x:Fn):Prop:=x.ps.length<=9223372036854775807/\(∀y∈x.ps,awM y)
mutual
def Ku:Nd->Prop
 | ⟨kind,name,unit,n,fr,to,known,CJ,kids,AF⟩=>nE CJ/\kids.length<=9223372036854775807/\gV kids
def gV:List Nd->Prop
 | []=>True
 | k::ks=>Ku k/\gV ks
end
def Zx{l:List Nd}:gV l↔∀k∈l,Ku k:=by
 induction l with
 | nil=>simp[gV]
 | cons k l ih=>simp[gV,ih]
def Pb(x:Nd):Ku x↔nE x.CJ/\x.kids.length<=9223372036854775807/\∀y∈x.kids,Ku y:=by
 cases x;rw[Ku,Zx]
end Mo
end Go.Proofs.YtpbkhogolfegfaaGreatDoor
