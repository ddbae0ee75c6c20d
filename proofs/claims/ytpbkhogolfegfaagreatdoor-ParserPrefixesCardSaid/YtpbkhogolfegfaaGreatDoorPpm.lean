/- Part of a proof: see the last text. -/
import Derived.Test.YtpbkhogolfegfaaGreatDoorPpl
import Derived.Shelf.Strings.Builder1
import Derived.Shelf.Strings.Builder2
import Derived.Shelf.Strconv.Atoi
import Derived.Shelf.Strconv.Itoa0
import Derived.Shelf.Strconv.Itoa1
import Derived.Shelf.LaysM
import Derived.Shelf.Strconv.Itoa2
import Derived.Shelf.Strconv.Itoa3
import Derived.Shelf.Strconv.AtoiErrFast
import Derived.Shelf.Strconv.ParseIntEmpty
import Derived.Shelf.Strconv.AtoiFail
import Derived.Shelf.Strconv.Clone
import Derived.Shelf.Strconv.SyntaxError
import Derived.Shelf.LaysC
import Derived.Shelf.Strconv.ToError
import Derived.Shelf.Strconv.Lower
import Derived.Shelf.Strconv.ParseUint10
import Derived.Shelf.Strconv.ParseUint10Empty
import Derived.Shelf.Strconv.ParseUint10Any
import Derived.Shelf.Strconv.ParseInt10
import Derived.Shelf.Strconv.AtoiLong
import Derived.Shelf.Strconv.AtoiInnerAll
import Derived.Shelf.Strconv.RangeError
import Derived.Shelf.Strconv.ToErrorRange
import Derived.Shelf.Strconv.AtoiAll
import Derived.Shelf.Strings.Search1
import Derived.Shelf.Strings.Search2
import Derived.Shelf.Strings.Search3
import Derived.Shelf.Strings.Count
import Derived.Shelf.Strings.Shaped
import Derived.Shelf.Strings.Split
import Derived.Shelf.Strings.Replace
import Derived.Shelf.Unicode.DecodeSlow
import Derived.Test.YtpbkhogolfegfaaGreatDoorProg
import Derived.KernelRfl
set_option linter.unusedVariables false
set_option linter.unusedSimpArgs false
set_option linter.defProp false
noncomputable section
namespace Go.Proofs
open Go.Shelf
def Tryz.j3:Go.Shelf.Ren:=⟨λ| 172=>173 | 244=>193 | 245=>194 | 247=>207 | 279=>208 | 280=>209 | 281=>210 | 282=>211 | 287=>224 | 316=>225 | 171=>64 | 205=>226 | 321=>235 | 322=>236 | 243=>114 | 246=>149 | 283=>166 | 284=>167 | 285=>168 | 286=>169 | 129=>189 | 317=>188 | 318=>190 | 319=>191 | 320=>192 | 337=>205 | 338=>206 | n=>n,λ| 9=>9 | 3=>3 | 75=>153 | 76=>154 | 4=>4 | 5=>5 | 167=>182 | 37=>52 | 0=>0 | 85=>183 | 2=>2 | 168=>185 | 53=>146 | 175=>197 | 46=>170 | 210=>201 | 127=>180 | 145=>210 | 143=>208 | 21=>21 | 171=>145 | 173=>149 | 212=>167 | 51=>168 | 20=>20 | 213=>169 | 232=>195 | 233=>196 | 80=>108 | n=>n,λ| 15=>10 | 16=>11 | 17=>4 | 18=>8 | 19=>9 | n=>n⟩
def Tryz.afF:Go.Proofs.Lays.n172 Tryz.prog Tryz.j3:={
 mixed:=by kernel_rfl
 f129:=Tryz.func189.trans (congrArg some (by kernel_rfl))
 f171:=Tryz.func64.trans (congrArg some (by kernel_rfl))
 f172:=Tryz.func173.trans (congrArg some (by kernel_rfl))
 f205:=Tryz.func226.trans (congrArg some (by kernel_rfl))
 f243:=Tryz.func114.trans (congrArg some (by kernel_rfl))
 f244:=Tryz.func193.trans (congrArg some (by kernel_rfl))
 f245:=Tryz.func194.trans (congrArg some (by kernel_rfl))
 f246:=Tryz.func149.trans (congrArg some (by kernel_rfl))
 f247:=Tryz.func207.trans (congrArg some (by kernel_rfl))
 f279:=Tryz.func208.trans (congrArg some (by kernel_rfl))
 f280:=Tryz.func209.trans (congrArg some (by kernel_rfl))
 f281:=Tryz.func210.trans (congrArg some (by kernel_rfl))
 f282:=Tryz.func211.trans (congrArg some (by kernel_rfl))
 f283:=Tryz.func166.trans (congrArg some (by kernel_rfl))
 f284:=Tryz.func167.trans (congrArg some (by kernel_rfl))
 f285:=Tryz.func168.trans (congrArg some (by kernel_rfl))
 f286:=Tryz.func169.trans (congrArg some (by kernel_rfl))
 f287:=Tryz.func224.trans (congrArg some (by kernel_rfl))
 f316:=Tryz.func225.trans (congrArg some (by kernel_rfl))
 f317:=Tryz.func188.trans (congrArg some (by kernel_rfl))
 f318:=Tryz.func190.trans (congrArg some (by kernel_rfl))
 f319:=Tryz.func191.trans (congrArg some (by kernel_rfl))
 f320:=Tryz.func192.trans (congrArg some (by kernel_rfl))
 f321:=Tryz.func235.trans (congrArg some (by kernel_rfl))
 f322:=Tryz.func236.trans (congrArg some (by kernel_rfl))
 f337:=Tryz.func205.trans (congrArg some (by kernel_rfl))
 f338:=Tryz.func206.trans (congrArg some (by kernel_rfl))
 t0:=Tryz.underlying0
 a0:=Tryz.isAgg0
 z0:=Tryz.sizeOf0
 v0:=Tryz.zeroValue0
 t2:=Tryz.underlying2
 a2:=Tryz.isAgg2
 z2:=Tryz.sizeOf2
 v2:=Tryz.zeroValue2
 t3:=Tryz.underlying3
 a3:=Tryz.isAgg3
 z3:=Tryz.sizeOf3
 v3:=Tryz.zeroValue3
 t4:=Tryz.underlying4
 a4:=Tryz.isAgg4
 z4:=Tryz.sizeOf4
 v4:=Tryz.zeroValue4
 t5:=Tryz.underlying5
 a5:=Tryz.isAgg5
 z5:=Tryz.sizeOf5
 v5:=Tryz.zeroValue5
 t9:=Tryz.underlying9
 a9:=Tryz.isAgg9
 z9:=Tryz.sizeOf9
 v9:=Tryz.zeroValue9
 t20:=Tryz.underlying20
 a20:=Tryz.isAgg20
 z20:=Tryz.sizeOf20
 v20:=Tryz.zeroValue20
 t21:=Tryz.underlying21
 a21:=Tryz.isAgg21
 z21:=Tryz.sizeOf21
 v21:=Tryz.zeroValue21
 t37:=Tryz.underlying52
 a37:=Tryz.isAgg52
 z37:=Tryz.sizeOf52
 v37:=Tryz.zeroValue52
 t46:=Tryz.underlying170
 a46:=Tryz.isAgg170
 z46:=Tryz.sizeOf170
 v46:=Tryz.zeroValue170
 t51:=Tryz.underlying168
 a51:=Tryz.isAgg168
 z51:=Tryz.sizeOf168
 v51:=Tryz.zeroValue168
 t53:=Tryz.underlying146
 a53:=Tryz.isAgg146
 z53:=Tryz.sizeOf146
 v53:=Tryz.zeroValue146
 t75:=Tryz.underlying153
 a75:=Tryz.isAgg153
 z75:=Tryz.sizeOf153
 v75:=Tryz.zeroValue153
 t76:=Tryz.underlying154
 a76:=Tryz.isAgg154
 z76:=Tryz.sizeOf154
 v76:=Tryz.zeroValue154
 t85:=Tryz.underlying183
 a85:=Tryz.isAgg183
 z85:=Tryz.sizeOf183
 v85:=Tryz.zeroValue183
 t127:=Tryz.underlying180
 a127:=Tryz.isAgg180
 z127:=Tryz.sizeOf180
 v127:=Tryz.zeroValue180
 t143:=Tryz.underlying208
 a143:=Tryz.isAgg208
 z143:=Tryz.sizeOf208
 v143:=Tryz.zeroValue208
 t145:=Tryz.underlying210
 a145:=Tryz.isAgg210
 z145:=Tryz.sizeOf210
 v145:=Tryz.zeroValue210
 t167:=Tryz.underlying182
 a167:=Tryz.isAgg182
 z167:=Tryz.sizeOf182
 v167:=Tryz.zeroValue182
 t168:=Tryz.underlying185
 a168:=Tryz.isAgg185
 z168:=Tryz.sizeOf185
 v168:=Tryz.zeroValue185
 t171:=Tryz.underlying145
 a171:=Tryz.isAgg145
 z171:=Tryz.sizeOf145
 v171:=Tryz.zeroValue145
 t173:=Tryz.underlying149
 a173:=Tryz.isAgg149
 z173:=Tryz.sizeOf149
 v173:=Tryz.zeroValue149
 t175:=Tryz.underlying197
 a175:=Tryz.isAgg197
 z175:=Tryz.sizeOf197
 v175:=Tryz.zeroValue197
 t210:=Tryz.underlying201
 a210:=Tryz.isAgg201
 z210:=Tryz.sizeOf201
 v210:=Tryz.zeroValue201
 t212:=Tryz.underlying167
 a212:=Tryz.isAgg167
 z212:=Tryz.sizeOf167
 v212:=Tryz.zeroValue167
 t213:=Tryz.underlying169
 a213:=Tryz.isAgg169
 z213:=Tryz.sizeOf169
 t232:=Tryz.underlying195
 a232:=Tryz.isAgg195
 z232:=Tryz.sizeOf195
 v232:=Tryz.zeroValue195
 t233:=Tryz.underlying196
 a233:=Tryz.isAgg196
 z233:=Tryz.sizeOf196
 v233:=Tryz.zeroValue196
 g15:=by kernel_rfl
 g16:=by kernel_rfl
 g17:=by kernel_rfl
 g18:=by kernel_rfl
 g19:=by kernel_rfl }
open Go.RowKit in
def Tryz.strconv_Atoi(s:ByteArray)(n:Int)(hl:s.size<=18)(h:Lib.atoi s.data.toList=some n)(w:World) :
   Calls Tryz.prog 173 #[.string s] w λe w'=>e=.returned (.tuple #[.int .i64 n,.nilIface])/\∃t,w'=Lib.bytesWorld w 5 t:=Any.strconv_Atoi Tryz.afF s n hl h w
open Go.RowKit Go.Sort Go.Lib in
def Tryz.WB:Go.Shelf.Ren:=⟨λ| 154=>163 | 138=>180 | 165=>181 | 143=>182 | 166=>183 | 197=>184 | 169=>185 | 195=>198 | 218=>199 | 240=>200 | 241=>201 | 219=>202 | 260=>203 | 276=>217 | 277=>218 | 217=>219 | 225=>220 | 224=>221 | 267=>222 | 266=>230 | 314=>231 | n=>n,λ| 9=>9 | 3=>3 | 4=>4 | 72=>162 | 0=>0 | 76=>154 | 105=>164 | 21=>21 | 5=>5 | 70=>160 | 20=>20 | 37=>52 | 75=>153 | 127=>180 | 164=>188 | 46=>170 | 119=>191 | 139=>194 | 138=>193 | 146=>204 | 51=>168 | 80=>108 | n=>n,λ| 1=>5 | 3=>6 | 4=>7 | n=>n⟩
def Tryz.afE:Go.Proofs.Lays.n154 Tryz.prog Tryz.WB:={
 mixed:=by kernel_rfl
 f138:=Tryz.func180.trans (congrArg some (by kernel_rfl))
 f143:=Tryz.func182.trans (congrArg some (by kernel_rfl))
 f154:=Tryz.func163.trans (congrArg some (by kernel_rfl))
 f165:=Tryz.func181.trans (congrArg some (by kernel_rfl))
 f166:=Tryz.func183.trans (congrArg some (by kernel_rfl))
 f169:=Tryz.func185.trans (congrArg some (by kernel_rfl))
 f195:=Tryz.func198.trans (congrArg some (by kernel_rfl))
 f197:=Tryz.func184.trans (congrArg some (by kernel_rfl))
 f217:=Tryz.func219.trans (congrArg some (by kernel_rfl))
 f218:=Tryz.func199.trans (congrArg some (by kernel_rfl))
 f219:=Tryz.func202.trans (congrArg some (by kernel_rfl))
 f224:=Tryz.func221.trans (congrArg some (by kernel_rfl))
 f225:=Tryz.func220.trans (congrArg some (by kernel_rfl))
 f240:=Tryz.func200.trans (congrArg some (by kernel_rfl))
 f241:=Tryz.func201.trans (congrArg some (by kernel_rfl))
 f260:=Tryz.func203.trans (congrArg some (by kernel_rfl))
 f266:=Tryz.func230.trans (congrArg some (by kernel_rfl))
 f267:=Tryz.func222.trans (congrArg some (by kernel_rfl))
 f276:=Tryz.func217.trans (congrArg some (by kernel_rfl))
 f277:=Tryz.func218.trans (congrArg some (by kernel_rfl))
 f314:=Tryz.func231.trans (congrArg some (by kernel_rfl))
 t0:=Tryz.underlying0
 a0:=Tryz.isAgg0
 z0:=Tryz.sizeOf0
 v0:=Tryz.zeroValue0
 t3:=Tryz.underlying3
 a3:=Tryz.isAgg3
 z3:=Tryz.sizeOf3
 v3:=Tryz.zeroValue3
 t4:=Tryz.underlying4
 a4:=Tryz.isAgg4
 z4:=Tryz.sizeOf4
 v4:=Tryz.zeroValue4
 t5:=Tryz.underlying5
 a5:=Tryz.isAgg5
 z5:=Tryz.sizeOf5
 v5:=Tryz.zeroValue5
 t9:=Tryz.underlying9
 a9:=Tryz.isAgg9
 z9:=Tryz.sizeOf9
 v9:=Tryz.zeroValue9
 t20:=Tryz.underlying20
 a20:=Tryz.isAgg20
 z20:=Tryz.sizeOf20
 v20:=Tryz.zeroValue20
 t21:=Tryz.underlying21
 a21:=Tryz.isAgg21
 z21:=Tryz.sizeOf21
 v21:=Tryz.zeroValue21
 t37:=Tryz.underlying52
 a37:=Tryz.isAgg52
 z37:=Tryz.sizeOf52
 v37:=Tryz.zeroValue52
 t46:=Tryz.underlying170
 a46:=Tryz.isAgg170
 z46:=Tryz.sizeOf170
 v46:=Tryz.zeroValue170
 t51:=Tryz.underlying168
 a51:=Tryz.isAgg168
 z51:=Tryz.sizeOf168
 v51:=Tryz.zeroValue168
 t70:=Tryz.underlying160
 a70:=Tryz.isAgg160
 z70:=Tryz.sizeOf160
 v70:=Tryz.zeroValue160
 t72:=Tryz.underlying162
 a72:=Tryz.isAgg162
 z72:=Tryz.sizeOf162
 v72:=Tryz.zeroValue162
 t75:=Tryz.underlying153
 a75:=Tryz.isAgg153
 z75:=Tryz.sizeOf153
 v75:=Tryz.zeroValue153
 t76:=Tryz.underlying154
 a76:=Tryz.isAgg154
 z76:=Tryz.sizeOf154
 v76:=Tryz.zeroValue154
 t105:=Tryz.underlying164
 a105:=Tryz.isAgg164
 z105:=Tryz.sizeOf164
 v105:=Tryz.zeroValue164
 t119:=Tryz.underlying191
 a119:=Tryz.isAgg191
 z119:=Tryz.sizeOf191
 t127:=Tryz.underlying180
 a127:=Tryz.isAgg180
 z127:=Tryz.sizeOf180
 v127:=Tryz.zeroValue180
 t138:=Tryz.underlying193
 a138:=Tryz.isAgg193
 z138:=Tryz.sizeOf193
 v138:=Tryz.zeroValue193
 t139:=Tryz.underlying194
 a139:=Tryz.isAgg194
 z139:=Tryz.sizeOf194
 v139:=Tryz.zeroValue194
 t146:=Tryz.underlying204
 a146:=Tryz.isAgg204
 z146:=Tryz.sizeOf204
 v146:=Tryz.zeroValue204
 t164:=Tryz.underlying188
 a164:=Tryz.isAgg188
 z164:=Tryz.sizeOf188
 v164:=Tryz.zeroValue188
 g1:=by kernel_rfl
 g3:=by kernel_rfl
 g4:=by kernel_rfl }
def Tryz.UA:Builder.Extra Tryz.prog Tryz.WB:={
 sizeBuilder:=by kernel_rfl
 liesBuilder:=by kernel_rfl
 t5:=Tryz.underlying5
 a5:=Tryz.isAgg5
 z5:=Tryz.sizeOf5
 v5:=Tryz.zeroValue5
 infoByte:=by kernel_rfl
 cellsByte:=by kernel_rfl
 sizeByte:=by kernel_rfl
 neB5:=by decide }
open Go.RowKit Go.Lib in
def Tryz.strings_Replace(s old new:ByteArray)(n:Int)(m:Int)(w:World)(hs:s.size < 4294967281)(hm:w.cell? ⟨5,0,none⟩=some (.int .i64 m))(h1:1<=old.size)(hlen:s.size+Lib.countB s old*new.size<=140737488355328) :
   Calls Tryz.prog 163 #[.string s,.string old,.string new,.int .i64 n] w λe w' =>
     e=.returned (.string ⟨(Lib.replace s.data.toList old.data.toList new.data.toList n).toArray⟩)/\Below w.heap.size w w':=Any.strings_Replace Tryz.afE Tryz.UA s old new n m w hs hm h1 hlen
end Go.Proofs
namespace Go.Proofs.YtpbkhogolfegfaaGreatDoor
open AI Go LexS
def GM(s:List UInt8):AV:=.sc (.string ⟨s.toArray⟩)
namespace Hd
def aeV:List AV:=(List.range 128).map λi=>.sc (.int .u8 (Me i:Nat))
def agU:List AV:=Gj.map GM
def int(n:Int):AV:=.sc (.int .i64 n)
def ahc(n:Int):AV:=.sc (.int .u64 n)
def G(mx:Int):Bc:=λg =>
 match Nat.beq g 2 with
 | true=>some [GM [111,114],GM [],GM [],GM [],GM [],GM [],GM [97,110,100],GM [],GM [],GM [],GM [],GM [],GM [],GM [],GM [],GM [],GM [],GM [],GM [61,61],GM [33,61],GM [60],GM [60,61],GM [62],GM [62,61],GM [43],GM [45],GM [],GM [],GM [],GM [],GM [42],GM [47],GM [97,116],GM [],GM [],GM []]
 | false=>match Nat.beq g 1 with
   | true=>some [GM [],GM [101,97,114,110],GM [100,101,100,117,99,116],GM [102,108,111,111,114],GM [105,110,102,111]]
   | false=>match Nat.beq g 12 with
     | true=>some [int 0,int 31,int 59,int 90,int 120,int 151,int 181,int 212,int 243,int 273,int 304,int 334,int 365]
     | false=>match Nat.beq g 3 with
       | true=>some aeV
       | false=>match Nat.beq g 0 with
         | true=>some agU
         | false=>match Nat.beq g 5 with
           | true=>some [int mx]
           | false=>match Nat.beq g 4 with
             | true=>some (Lib.pow10Tab.map ahc)
             | false=>none
variable {mx:Int}
def mixed:Tryz.prog.follows .mixedOrders=true:=by kernel_rfl
def Y4:∀l:List (List UInt8),BS (l.map GM)=true
 | []=>rfl
 | s::l=>by
   show(true&&BS (l.map GM))=true;rw[Y4 l];rfl
def kP:∀l:List Nat,BS (l.map λi=>(.sc (.int .u8 (Me i:Nat)):AV))=true
 | []=>rfl
 | s::l=>by
   show(true&&BS (l.map λi=>(.sc (.int .u8 (Me i:Nat)):AV)))=true;rw[kP l];rfl
def bK:∀l:List Int,BS (l.map ahc)=true
 | []=>rfl
 | s::l=>by
   show(true&&BS (l.map ahc))=true;rw[bK l];rfl
def Aa(g:Nat)(cs:List AV)(h:G mx g=some cs):BS cs=true:=by
 unfold G at h;split at h;cases h;rfl;split at h;cases h;rfl;split at h;cases h;rfl;split at h;cases h;exact kP _;split at h;cases h;exact Y4 _;split at h;cases h;rfl;split at h;cases h;exact bK _;cases h
end Hd
end Go.Proofs.YtpbkhogolfegfaaGreatDoor
namespace Go.Proofs.YtpbkhogolfegfaaGreatDoor
open AI Go
namespace Mo
abbrev P:Program:=Tryz.prog
abbrev G(mx:Int):Bc:=Hd.G mx
variable {G0:Bc}
def ZN{i n:Nat}(h:i < n):DS ((i:Nat):Int) ((n:Nat):Int)=true:=by rw[Sw];simp;exact h
def j7{i n:Nat}(h:n<=i):DS ((i:Nat):Int) ((n:Nat):Int)=false:=by rw[Sw];simp;omega
def FR{a b:Int}(h:CV a b=true):a=b:=by rw[QT] at h;simpa using h
def aH{a b:Int}(h:CV a b=false):a≠b:=by rw[QT] at h;simpa using h
def ab2{a b:Int}(h:Oe a b=false):b < a:=by rw[YP] at h;have:=of_decide_eq_false h;omega
def YV{a b:Int}(h:DS a b=true):a < b:=by rw[Sw] at h;exact of_decide_eq_true h
def Lc{a b:Int}(h:DS a b=false):b<=a:=by rw[Sw] at h;have:=of_decide_eq_false h;omega
def Ag{β:Type}{b:Bool}{t f:Option β}{r:β}{X:Prop}(h1:b=true->t=some r->X)(h2:b=false->f=some r->X):cond b t f=some r->X:=λh=>(apb h).elim (λx=>h1 x.1 x.2) λx=>h2 x.1 x.2
def Aq{β κ:Type}{m:Option κ}{k:κ->Option β}{r:β}{X:Prop}(h1:∀y,m=some y->k y=some r->X):m.bind k=some r->X:=λh=>(iO h).elim λy x=>h1 y x.1 x.2
def LM{β:Type}{n:Nat}{x:Option β}{r:β}{X:Prop}(h1:n<=100000000->x=some r->X):ML n x=some r->X:=λh=>h1 (acb h).1 (acb h).2
def fC{β:Type}{r:β}{X:Prop}:(none:Option β)=some r->X:=λh=>nomatch h
def IX{a b:Int}(h:a=b):CV a b=true:=by rw[QT];simpa using h
def KE{a b:Int}(h:a≠b):CV a b=false:=by rw[QT];simpa using h
def YQ{a b:Int}(h:a<=b):Oe a b=true:=by rw[YP];exact decide_eq_true h
def U5{a b:Int}(h:b < a):Oe a b=false:=by rw[YP];exact decide_eq_false (by omega)
def GQ{a b:Int}(h:a < b):DS a b=true:=by rw[Sw];exact decide_eq_true h
def Hp{a b:Int}(h:b<=a):DS a b=false:=by rw[Sw];exact decide_eq_false (by omega)
def Pb{a b:ByteArray}(h:B2 a.data.toList b.data.toList=true):a=b:=by
 rw[TO] at h;exact ByteArray.ext (Array.ext' (eq_of_beq h))
def aaP{a b:ByteArray}(h:B2 a.data.toList b.data.toList=false):a≠b:=λe=>by
 subst e;rw[TO] at h;simp at h
def fq{n m:Nat}{a:AV}(h:plain a=true):FP n m:=⟨a,a,.plain h⟩
def am0{n:Nat}{l:List AV}(h:BS l=true):plain (.sl .lost n l)=true:=by simp only[plain,h];rfl
def WH{n:Nat}{l:List AV}(h:BS l=true):plain (.sl .full n l)=true:=by simp only[plain,h];rfl
def Tj{n m r sz k:Nat}{l:List AV}(h:decide (r < m)=true)(t:FI n m l=true):under n m (.sl (.row r sz) k l)=true:=by simp only[under,h,t];rfl
def inC(x:Int):List AV:=[.sc (.int .i64 x)]
def u8C(x:Int):List AV:=[.sc (.int .u8 x)]
def stC(x:ByteArray):List AV:=[.sc (.string x)]
def akm:Rx inC (rows inC) 1:=⟨λ_=>rfl,λ_=>rfl,λ_=>rfl⟩
def eX:Rx stC (rows stC) 1:=⟨λ_=>rfl,λ_=>rfl,λ_=>rfl⟩
structure Pc where
 fr:Int
 AH:Int
 M5:Int
def Jj(x:Pc):List AV:=[.sc (.int .i64 x.fr),.sc (.int .i64 x.AH),.sc (.int .i64 x.M5)]
def RE:Rx Jj (rows Jj) 3:=⟨λ_=>rfl,λ_=>rfl,λx=>(A1 rfl (A1 rfl (A1 rfl rfl)))⟩
structure Pt where
 fr:Int
 AH:Int
 num:Int
 den:Int
def Xz(x:Pt):List AV:=[.sc (.int .i64 x.fr),.sc (.int .i64 x.AH),.sc (.int .i64 x.num),.sc (.int .i64 x.den)]
def Qe:Rx Xz (rows Xz) 4:=⟨λ_=>rfl,λ_=>rfl,λx=>(A1 rfl (A1 rfl (A1 rfl (A1 rfl rfl))))⟩
structure Fn where
 den:Int
 ps:(List Pc)
def rW(x:Fn):List AV:=[.sc (.int .i64 x.den),.sl .lost x.ps.length (rows Jj x.ps)]
def j2:Rx rW (rows rW) 2:=⟨λ_=>rfl,λ_=>rfl,λx=>(A1 rfl (A1 (RE.IH x.ps) rfl))⟩
structure Nd where
 kind:Int
 name:ByteArray
 unit:ByteArray
 n:Int
 fr:Int
 to:Int
 known:Int
 CZ:Fn
 kids:(List Nd)
 AH:Int
mutual
def ndK:Nd->List AV
 | ⟨kind,name,unit,n,fr,to,known,CZ,kids,AH⟩=>[.sc (.int .i64 kind),.sc (.string name),.sc (.string unit),.sc (.int .i64 n),.sc (.int .i64 fr),.sc (.int .i64 to),.sc (.int .i64 known),.sc (.int .i64 CZ.den),.sl .lost CZ.ps.length (rows Jj CZ.ps),.sl .lost kids.length (BF kids),.sc (.int .i64 AH)]
def BF:List Nd->List AV
 | []=>[]
 | k::ks=>ndK k++BF ks
end
def Dd(x:Nd):List AV:=[.sc (.int .i64 x.kind),.sc (.string x.name),.sc (.string x.unit),.sc (.int .i64 x.n),.sc (.int .i64 x.fr),.sc (.int .i64 x.to),.sc (.int .i64 x.known),.sc (.int .i64 x.CZ.den),.sl .lost x.CZ.ps.length (rows Jj x.CZ.ps),.sl .lost x.kids.length (BF x.kids),.sc (.int .i64 x.AH)]
def ack(x:Nd):ndK x=Dd x:=by cases x;rfl
def tE(l:List Nd):BF l=rows Dd l:=by
 induction l with
 | nil=>rfl
 | cons k ks ih=>rw[I8,BF,ih,ack]
mutual
def acm:∀x:Nd,BS (ndK x)=true
 | ⟨kind,name,unit,n,fr,to,known,CZ,kids,AH⟩=>by rw[ndK];exact(A1 rfl (A1 rfl (A1 rfl (A1 rfl (A1 rfl (A1 rfl (A1 rfl (A1 rfl (A1 (RE.IH CZ.ps) (A1 (am0 (tF kids)) (A1 rfl rfl)))))))))))
def tF:∀l:List Nd,BS (BF l)=true
 | []=>rfl
 | k::ks=>by rw[BF];exact aiv (acm k) (tF ks)
end
def AD:Rx Dd BF 11:=⟨tE,λ_=>rfl,λx=>by rw[<- ack];exact acm x⟩
structure Ex where
 op:Int
 n:Int
 unit:ByteArray
 CZ:Fn
 kids:(List Ex)
mutual
def exK:Ex->List AV
 | ⟨op,n,unit,CZ,kids⟩=>[.sc (.int .i64 op),.sc (.int .i64 n),.sc (.string unit),.sc (.int .i64 CZ.den),.sl .lost CZ.ps.length (rows Jj CZ.ps),.sl .lost kids.length (ae6 kids)]
def ae6:List Ex->List AV
 | []=>[]
 | k::ks=>exK k++ae6 ks
end
mutual
def ajo:∀x:Ex,BS (exK x)=true
 | ⟨op,n,unit,CZ,kids⟩=>by rw[exK];exact(A1 rfl (A1 rfl (A1 rfl (A1 rfl (A1 (RE.IH CZ.ps) (A1 (am0 (rV kids)) rfl))))))
def rV:∀l:List Ex,BS (ae6 l)=true
 | []=>rfl
 | k::ks=>by rw[ae6];exact aiv (ajo k) (rV ks)
end
structure Ar where
 number:Int
 line:Int
 ary:Int
 fr:Int
 to:Int
 known:Int
 wh:(List Ex)
 un:(List Int)
 am:Ex
structure Dc where
 name:ByteArray
 unit:ByteArray
 arz:Int
structure Co where
 facts:(List Dc)
 lines:(List Dc)
 ari:(List Ar)
structure Tk where
 kind:Int
 text:ByteArray
 AH:Int
def GA(x:Tk):List AV:=[.sc (.int .i64 x.kind),.sc (.string x.text),.sc (.int .i64 x.AH)]
def BK:Rx GA (rows GA) 3:=⟨λ_=>rfl,λ_=>rfl,λx=>(A1 rfl (A1 rfl (A1 rfl rfl)))⟩
structure Dg where
 err:Int
 AH:Int
def OX(x:Dg):List AV:=[.sc (.int .i64 x.err),.sc (.int .i64 x.AH)]
def B7:Rx OX (rows OX) 2:=⟨λ_=>rfl,λ_=>rfl,λx=>(A1 rfl (A1 rfl rfl))⟩
structure Pr where
 Bj:(List Tk)
 Kb:Int
 DP:Int
def RH(x:Pr):List AV:=[.sl .lost x.Bj.length (rows GA x.Bj),.sc (.int .i64 x.Kb),.sc (.int .i64 x.DP)]
def CP:Rx RH (rows RH) 3:=⟨λ_=>rfl,λ_=>rfl,λx=>(A1 (BK.IH x.Bj) (A1 rfl (A1 rfl rfl)))⟩
structure Ps where
 l:(List Tk)
 at_:Int
 end_:Int
 err:Int
 ara:Int
structure Ck where
 nodes:Int
def JF(x:Ck):List AV:=[.sc (.int .i64 x.nodes)]
def RD:Rx JF (rows JF) 1:=⟨λ_=>rfl,λ_=>rfl,λx=>(A1 rfl rfl)⟩
structure Cq where
 src:Nd
 aq8:(List Dg)
structure Ft where
 alJ:Co
 lines:(Mm Int Int)
 nodes:Int
structure Sc where
 facts:(Mm ByteArray ByteArray)
 lines:(Mm ByteArray ByteArray)
 aah:(Mm Int ByteArray)
structure Tr where
 alJ:Co
 facts:(Mm ByteArray Int)
 lines:(Mm ByteArray Int)
 aah:(Mm Int Int)
def u24:P.underlying 24=some (.slice 64):=by kernel_rfl
def s64:(P.info? 64).map (·.size)=some 3:=by kernel_rfl
def i64:(P.info? 64).map (λi=>(i.size,i.bytes,i.zero.map (·.cells.size)))=some (3,24,some 3):=by kernel_rfl
def WX(own:Own){l:List Pc}{i:Nat}{x:Pc}(h:l[i]?=some x):DE P 24 (.sl own l.length (rows Jj l)) (.sc (.int .i64 ((i:Nat):Int)))=some (.el (Jj x++rows Jj (l.drop (i+1)))):=RE.ix u24 s64 own h
def amE(own:Own){l:List Pc}{z:Int}{x:Pc}(h:Hc l z=some x):DE P 24 (.sl own l.length (rows Jj l)) (.sc (.int .i64 z))=some (.el (Jj x++rows Jj (l.drop (z.toNat+1)))):=RE.ixz u24 s64 own h
def alV(own:Own)(l m:List Pc){o:Own}{n:Nat}{ns:List AV}(hn:Wn ns (rows Jj m))(oU:n=m.length)(ho:ns.all one=true)(hm:m.length≠0)(hlen:l.length+m.length<=100000000):Cd.ok P G0 (.ZT 24 24 own l.length (rows Jj l) (.sl o n ns) 3 (l++m).length (rows Jj (l++m))):=RE.ZT u24 u24 i64 (by decide) (by decide) own l m hn oU ho hm hlen
def u27:P.underlying 27=some (.slice 29):=by kernel_rfl
def s29:(P.info? 29).map (·.size)=some 11:=by kernel_rfl
def i29:(P.info? 29).map (λi=>(i.size,i.bytes,i.zero.map (·.cells.size)))=some (11,136,some 11):=by kernel_rfl
def Ky(own:Own){l:List Nd}{i:Nat}{x:Nd}(h:l[i]?=some x):DE P 27 (.sl own l.length (BF l)) (.sc (.int .i64 ((i:Nat):Int)))=some (.el (Dd x++BF (l.drop (i+1)))):=AD.ix u27 s29 own h
def P8(own:Own)(l m:List Nd){o:Own}{n:Nat}{ns:List AV}(hn:Wn ns (BF m))(oU:n=m.length)(ho:ns.all one=true)(hm:m.length≠0)(hlen:l.length+m.length<=100000000):Cd.ok P G0 (.ZT 27 27 own l.length (BF l) (.sl o n ns) 11 (l++m).length (BF (l++m))):=AD.ZT u27 u27 i29 (by decide) (by decide) own l m hn oU ho hm hlen
def aa9(own:Own)(l m:List Nd){o:Own}{n:Nat}{ns cs:List AV}(e:cs=BF l)(hn:Wn ns (BF m))(oU:n=m.length)(ho:ns.all one=true)(hm:m.length≠0)(hlen:l.length+m.length<=100000000):Cd.ok P G0 (.ZT 27 27 own l.length cs (.sl o n ns) 11 (l++m).length (BF (l++m))):=e▸P8 own l m hn oU ho hm hlen
def alU(own:Own)(l m:List Nd){o:Own}(hm:¬m.length=0)(hlen:l.length+m.length<=100000000):Cd.ok P G0 (.ZT 27 27 own l.length (BF l) (.sl o m.length (BF m)) 11 (l++m).length (BF (l++m))):=AD.ZT u27 u27 i29 (by decide) (by decide) own l m (Wn.refl _) rfl (AD.ai1 (λ_=>rfl) m) hm hlen
def apt(own:Own)(l m:List Nd){o:Own}(s:AS)(hm:m.length=0)(hlen:l.length+m.length<=100000000):Cd.ok P G0 (.WT s 27 27 (.sl own l.length (BF l)) (.sl o m.length (BF m)) (.sl own l.length (BF l)) s):=AD.ga u27 u27 i29 (by decide) (by decide) own l m s hm hlen
def u30:P.underlying 30=some (.slice 45):=by kernel_rfl
def s45:(P.info? 45).map (·.size)=some 2:=by kernel_rfl
def i45:(P.info? 45).map (λi=>(i.size,i.bytes,i.zero.map (·.cells.size)))=some (2,16,some 2):=by kernel_rfl
def wM(own:Own){l:List Dg}{i:Nat}{x:Dg}(h:l[i]?=some x):DE P 30 (.sl own l.length (rows OX l)) (.sc (.int .i64 ((i:Nat):Int)))=some (.el (OX x++rows OX (l.drop (i+1)))):=B7.ix u30 s45 own h
def alW(own:Own)(l m:List Dg){o:Own}{n:Nat}{ns:List AV}(hn:Wn ns (rows OX m))(oU:n=m.length)(ho:ns.all one=true)(hm:m.length≠0)(hlen:l.length+m.length<=100000000):Cd.ok P G0 (.ZT 30 30 own l.length (rows OX l) (.sl o n ns) 2 (l++m).length (rows OX (l++m))):=B7.ZT u30 u30 i45 (by decide) (by decide) own l m hn oU ho hm hlen
def u38:P.underlying 38=some (.slice 43):=by kernel_rfl
def s43:(P.info? 43).map (·.size)=some 3:=by kernel_rfl
def i43:(P.info? 43).map (λi=>(i.size,i.bytes,i.zero.map (·.cells.size)))=some (3,32,some 3):=by kernel_rfl
def aU(own:Own){l:List Tk}{z:Int}{x:Tk}(h:Hc l z=some x):DE P 38 (.sl own l.length (rows GA l)) (.sc (.int .i64 z))=some (.el (GA x++rows GA (l.drop (z.toNat+1)))):=BK.ixz u38 s43 own h
def alX(own:Own)(l m:List Tk){o:Own}{n:Nat}{ns:List AV}(hn:Wn ns (rows GA m))(oU:n=m.length)(ho:ns.all one=true)(hm:m.length≠0)(hlen:l.length+m.length<=100000000):Cd.ok P G0 (.ZT 38 38 own l.length (rows GA l) (.sl o n ns) 3 (l++m).length (rows GA (l++m))):=BK.ZT u38 u38 i43 (by decide) (by decide) own l m hn oU ho hm hlen
def s5:(P.info? 5).map (·.size)=some 1:=by kernel_rfl
def i5:(P.info? 5).map (λi=>(i.size,i.bytes,i.zero.map (·.cells.size)))=some (1,1,some 1):=by kernel_rfl
def u57:P.underlying 57=some (.slice 9):=by kernel_rfl
def s9:(P.info? 9).map (·.size)=some 1:=by kernel_rfl
def akh(own:Own){l:List ByteArray}{i:Nat}{x:ByteArray}(h:l[i]?=some x):DE P 57 (.sl own l.length (rows stC l)) (.sc (.int .i64 ((i:Nat):Int)))=some (.el (stC x++rows stC (l.drop (i+1)))):=eX.ix u57 s9 own h
def ahb:P.underlying 174=some (.slice 176):=by kernel_rfl
def ana:(P.info? 176).map (·.size)=some 4:=by kernel_rfl
def i176:(P.info? 176).map (λi=>(i.size,i.bytes,i.zero.map (·.cells.size)))=some (4,32,some 4):=by kernel_rfl
def amD(own:Own){l:List Pt}{i:Nat}{x:Pt}(h:l[i]?=some x):DE P 174 (.sl own l.length (rows Xz l)) (.sc (.int .i64 ((i:Nat):Int)))=some (.el (Xz x++rows Xz (l.drop (i+1)))):=Qe.ix ahb ana own h
def aki(own:Own){l:List Pt}{z:Int}{x:Pt}(h:Hc l z=some x):DE P 174 (.sl own l.length (rows Xz l)) (.sc (.int .i64 z))=some (.el (Xz x++rows Xz (l.drop (z.toNat+1)))):=Qe.ixz ahb ana own h
def aju(own:Own)(l m:List Pt){o:Own}{n:Nat}{ns:List AV}(hn:Wn ns (rows Xz m))(oU:n=m.length)(ho:ns.all one=true)(hm:m.length≠0)(hlen:l.length+m.length<=100000000):Cd.ok P G0 (.ZT 174 174 own l.length (rows Xz l) (.sl o n ns) 4 (l++m).length (rows Xz (l++m))):=Qe.ZT ahb ahb i176 (by decide) (by decide) own l m hn oU ho hm hlen
def s3:(P.info? 3).map (·.size)=some 1:=by kernel_rfl
def i3:(P.info? 3).map (λi=>(i.size,i.bytes,i.zero.map (·.cells.size)))=some (1,8,some 1):=by kernel_rfl
def w64(x:Int):Int:=IntKind.i64.wrap x
def yQ(x y:Int):Int:=IntKind.i64.wrap (x.tdiv y)
def gK(x y:Int):Int:=x.tmod y
def Tb(x y:Int):Option Int:=if y=0 then none else some (yQ x y)
def VI(x y:Int):Option Int:=if y=0 then none else some (gK x y)
def OJ(s:ByteArray)(l h:Int):Option ByteArray:=if 0<=l/\l<=h/\h<=((s.data.toList.length:Nat):Int) then some ⟨((s.data.toList.drop l.toNat).take (h.toNat - l.toNat)).toArray⟩ else none
def adp{α:Type}(s:List α)(l h:Int):Option (List α):=if 0<=l/\l<=h/\h<=((s.length:Nat):Int) then some ((s.drop l.toNat).take (h.toNat - l.toNat)) else none
def X2(z:Int)(h:0<=z):S7 (.sc (.int .i64 z))=some z.toNat:=by unfold S7;simp[h]
def Re{a b c:Int}(h:Tb a b=some c)(x y:Operand):Ly P .quo 3 x y (.sc (.int .i64 a)) (.sc (.int .i64 b))=some (.sc (.int .i64 c)):=by
 unfold Tb at h;split at h;cases h;rename_i hb;cases h;simp[Ly,Tp,Vm,eqGuard,binOp,Op.intDiv,hb,AI.pv,Z6,scalar,yQ,Bind.bind,Sem.bind,Pure.pure]
def XA{a b c:Int}(h:VI a b=some c)(x y:Operand):Ly P .rem 3 x y (.sc (.int .i64 a)) (.sc (.int .i64 b))=some (.sc (.int .i64 c)):=by
 unfold VI at h;split at h;cases h;rename_i hb;cases h;simp[Ly,Tp,Vm,eqGuard,binOp,Op.intDiv,hb,AI.pv,Z6,scalar,gK,Bind.bind,Sem.bind,Pure.pure]
def us9:P.underlying 9=some .string:=by kernel_rfl
def WY{s:ByteArray}{i:Nat}{c:UInt8}(h:s.data.toList[i]?=some c):Lz P 9 (.sc (.string s)) (.sc (.int .i64 ((i:Nat):Int)))=some (.sc (.int .u8 ((c.toNat:Nat):Int))):=by
 unfold Lz;rw[us9,X2 _ (by omega)];simp only[Int.toNat_natCast,h]
def Jr{s:ByteArray}{z:Int}{c:UInt8}(h:Hc s.data.toList z=some c):Lz P 9 (.sc (.string s)) (.sc (.int .i64 z))=some (.sc (.int .u8 ((c.toNat:Nat):Int))):=by
 unfold Hc at h;split at h;rename_i hz;have:=WY h;rwa[Int.toNat_of_nonneg hz] at this;cases h
def IA{s v:ByteArray}{l h:Int}(e:OJ s l h=some v):KX P 9 (.sc (.string s)) (some (.sc (.int .i64 l))) (some (.sc (.int .i64 h))) none=some (.sc (.string v)):=by
 unfold OJ at e;split at e;rename_i hc;cases e;unfold KX;rw[us9];simp only[M7,X2 l hc.1,X2 h (by omega)];rw[if_pos ⟨by omega,by omega⟩];cases e
def ani{s v:ByteArray}{h:Int}(e:OJ s 0 h=some v):KX P 9 (.sc (.string s)) none (some (.sc (.int .i64 h))) none=some (.sc (.string v)):=by
 unfold OJ at e;split at e;rename_i hc;cases e;unfold KX;rw[us9];simp only[M7,X2 h (by omega)];rw[if_pos ⟨by omega,by omega⟩];simp;cases e
def agT(l h:Nat){s:List Nd}(h1:l<=h)(h2:h<=s.length)(lo hi:Option AV)(e1:M7 0 lo=some l)(e2:M7 s.length hi=some h):KX P 27 (.sl .lost s.length (BF s)) lo hi none=some (.sl .lost ((s.drop l).take (h - l)).length (BF ((s.drop l).take (h - l)))):=AD.sub u27 s29 l h h1 h2 lo hi e1 e2
def uK{s v:List Nd}{l:Int}(e:adp s l ((s.length:Nat):Int)=some v):KX P 27 (.sl .lost s.length (BF s)) (some (.sc (.int .i64 l))) (none) none=some (.sl .lost v.length (BF v)):=by
 unfold adp at e;split at e;rename_i hc;cases e;exact agT _ _ (by omega) (by omega) _ _ (X2 l hc.1) rfl;cases e
def PT(x y:Pc):Bool:=x.fr == y.fr&&(x.AH == y.AH&&(x.M5 == y.M5))
def qL(x y:Pc):ZP [.int .i64 x.fr,.int .i64 x.AH,.int .i64 x.M5] [.int .i64 y.fr,.int .i64 y.AH,.int .i64 y.M5]=some (PT x y):=by
 simp only[ZP,fEq,PT,if_true,Option.bind_some];cases (x.fr == y.fr)<;>cases (x.AH == y.AH)<;>cases (x.M5 == y.M5)<;>rfl
def ajr:Flat P 64 [1,1,1]:=⟨by kernel_rfl,by kernel_rfl,by kernel_rfl,by kernel_rfl,by kernel_rfl,by kernel_rfl⟩
def bB{x y:Pc}{b:Bool}(h:PT x y=b)(ox oy:Operand):Ly P .neq 64 ox oy (.agg (Jj x)) (.agg (Jj y))=some (.sc (.bool (!b))):=by
 subst h;exact(ajr.bin (us:=[.int .i64 x.fr,.int .i64 x.AH,.int .i64 x.M5]) (vs:=[.int .i64 y.fr,.int .i64 y.AH,.int .i64 y.M5]) ⟨.inl ⟨_,rfl,rfl⟩,⟨.inl ⟨_,rfl,rfl⟩,⟨.inl ⟨_,rfl,rfl⟩,trivial⟩⟩⟩ ⟨.inl ⟨_,rfl,rfl⟩,⟨.inl ⟨_,rfl,rfl⟩,⟨.inl ⟨_,rfl,rfl⟩,trivial⟩⟩⟩ (qL x y) ox oy).2
def Ri(x y:Dg):Bool:=x.err == y.err&&(x.AH == y.AH)
def Zg(x y:Dg):ZP [.int .i64 x.err,.int .i64 x.AH] [.int .i64 y.err,.int .i64 y.AH]=some (Ri x y):=by
 simp only[ZP,fEq,Ri,if_true,Option.bind_some];cases (x.err == y.err)<;>cases (x.AH == y.AH)<;>rfl
def aa0:Flat P 45 [1,1]:=⟨by kernel_rfl,by kernel_rfl,by kernel_rfl,by kernel_rfl,by kernel_rfl,by kernel_rfl⟩
def ah2{x y:Dg}{b:Bool}(h:Ri x y=b)(ox oy:Operand):Ly P .eql 45 ox oy (.agg (OX x)) (.agg (OX y))=some (.sc (.bool (b))):=by
 subst h;exact(aa0.bin (us:=[.int .i64 x.err,.int .i64 x.AH]) (vs:=[.int .i64 y.err,.int .i64 y.AH]) ⟨.inl ⟨_,rfl,rfl⟩,⟨.inl ⟨_,rfl,rfl⟩,trivial⟩⟩ ⟨.inl ⟨_,rfl,rfl⟩,⟨.inl ⟨_,rfl,rfl⟩,trivial⟩⟩ (Zg x y) ox oy).1
def aip{x y:Dg}{b:Bool}(h:Ri x y=b)(ox oy:Operand):Ly P .neq 45 ox oy (.agg (OX x)) (.agg (OX y))=some (.sc (.bool (!b))):=by
 subst h;exact(aa0.bin (us:=[.int .i64 x.err,.int .i64 x.AH]) (vs:=[.int .i64 y.err,.int .i64 y.AH]) ⟨.inl ⟨_,rfl,rfl⟩,⟨.inl ⟨_,rfl,rfl⟩,trivial⟩⟩ ⟨.inl ⟨_,rfl,rfl⟩,⟨.inl ⟨_,rfl,rfl⟩,trivial⟩⟩ (Zg x y) ox oy).2
def beforeL:List Int:=[0,31,59,90,120,151,181,212,243,273,304,334,365]
def pF{z:Int}{x:Int}(h:Hc beforeL z=some x):DE P 203 (.el (rows inC beforeL)) (.sc (.int .i64 z))=some (.el (inC x++rows inC (beforeL.drop (z.toNat+1)))):=akm.ixa (elem:=3) (len:=13) (by kernel_rfl) (by kernel_rfl) rfl h
def cU{a b:Int}{q:Bool}(h:some (CV a b)=some q)(x y:Operand):Ly P .eql 3 x y (.sc (.int .i64 a)) (.sc (.int .i64 b))=some (.sc (.bool q)):=by
 rw[<- N2];cases h
 kernel_rfl
def anJ{a b:ByteArray}{q:Bool}(h:some (B2 a.data.toList b.data.toList)=some q)(x y:Operand):Ly P .eql 9 x y (.sc (.string a)) (.sc (.string b))=some (.sc (.bool q)):=by
 rw[<- N2];cases h
 kernel_rfl
def anK{a b:Int}{q:Bool}(h:some (DS b a)=some q)(x y:Operand):Ly P .gtr 3 x y (.sc (.int .i64 a)) (.sc (.int .i64 b))=some (.sc (.bool q)):=by
 rw[<- N2];cases h
 kernel_rfl
def anL{a b:Int}{q:Bool}(h:some (Oe a b)=some q)(x y:Operand):Ly P .leq 3 x y (.sc (.int .i64 a)) (.sc (.int .i64 b))=some (.sc (.bool q)):=by
 rw[<- N2];cases h
 kernel_rfl
def aiP{a b:Int}{q:Bool}(h:some (DS a b)=some q)(x y:Operand):Ly P .lss 3 x y (.sc (.int .i64 a)) (.sc (.int .i64 b))=some (.sc (.bool q)):=by
 rw[<- N2];cases h
 kernel_rfl
def Ib:ByteArray:=⟨#[33,61]⟩
def Ub:ByteArray:=⟨#[40]⟩
def VX:ByteArray:=⟨#[41]⟩
def PQ:ByteArray:=⟨#[42]⟩
def OA:ByteArray:=⟨#[43]⟩
def Uc:ByteArray:=⟨#[44]⟩
def Lu:ByteArray:=⟨#[45]⟩
def akP:ByteArray:=⟨#[46]⟩
def EH:ByteArray:=⟨#[47]⟩
def qC:ByteArray:=⟨#[47,47]⟩
def Vd:ByteArray:=⟨#[58]⟩
def RY:ByteArray:=⟨#[59]⟩
def Kh:ByteArray:=⟨#[60]⟩
def Hg:ByteArray:=⟨#[60,61]⟩
def GW:ByteArray:=⟨#[61,61]⟩
def JK:ByteArray:=⟨#[62]⟩
def FX:ByteArray:=⟨#[62,61]⟩
def aS:ByteArray:=⟨#[97]⟩
def M1:ByteArray:=⟨#[97,32,60,32,98,32,60,32,99]⟩
def E8:ByteArray:=⟨#[97,32,62,32,51,32,97,110,100,32,110,111,116,32,98,32,61,61,32,99]⟩
def QN:ByteArray:=⟨#[97,109,111,117,110,116]⟩
def P1:ByteArray:=⟨#[97,110,100]⟩
def dF:ByteArray:=⟨#[97,114,116]⟩
def Hl:ByteArray:=⟨#[97,114,116,105,99,108,101]⟩
def iM:ByteArray:=⟨#[97,116]⟩
def bS:ByteArray:=⟨#[98]⟩
def cS:ByteArray:=⟨#[99]⟩
def dO:ByteArray:=⟨#[100,97,121]⟩
def Mr:ByteArray:=⟨#[100,101,100,117,99,116]⟩
def Tu:ByteArray:=⟨#[101,97,114,110]⟩
def Si:ByteArray:=⟨#[102,97,99,116]⟩
def Ev:ByteArray:=⟨#[102,97,99,116,32,114,97,116,101,32,58,32,69,85,82,32,108,105,110,101,32,120]⟩
def TP:ByteArray:=⟨#[102,97,108,115,101]⟩
def PA:ByteArray:=⟨#[102,108,111,111,114]⟩
def aa1:ByteArray:=⟨#[102,111,114]⟩
def r4:ByteArray:=⟨#[102,114,111,109]⟩
def F0:ByteArray:=⟨#[103,114,101,97,116,101,115,116]⟩
def EI:ByteArray:=⟨#[104,111,117,114,115,32,97,116,32,114,97,116,101,32,43,32,97,114,116,32,51]⟩
def Ty:ByteArray:=⟨#[105,110,102,111]⟩
def VN:ByteArray:=⟨#[107,110,111,119,110]⟩
def K2:ByteArray:=⟨#[108,101,97,115,116]⟩
def Of:ByteArray:=⟨#[108,105,110,101]⟩
def Av:ByteArray:=⟨#[108,105,110,101,32,112,97,121,32,58,32,69,85,82,32,101,97,114,110,59,32,97,114,116,105,99,108,101,32,51,32,102,111,114,32,112,97,121,32,114,97,110,107,32,49,32,102,114,111,109,32,50,48,50,52,45,48,49,45,48,49,32,107,110,111,119,110,32,50,48,50,52,45,48,49,45,48,49,32,123,32,97,109,111,117,110,116,32,69,85,82,32,49,46,53,48,59,32,125]⟩
def afS:ByteArray:=⟨#[109,105,110]⟩
def JV:ByteArray:=⟨#[109,105,110,117,116,101,115]⟩
def Q1:ByteArray:=⟨#[109,111,110,116,104]⟩
def VT:ByteArray:=⟨#[110,111,116]⟩
def EK:ByteArray:=⟨#[110,117,109,98,101,114]⟩
def kI:ByteArray:=⟨#[111,114]⟩
def tS:ByteArray:=⟨#[114,97,110,107]⟩
def Rl:ByteArray:=⟨#[116,97,98,108,101]⟩
def BI:ByteArray:=⟨#[116,97,98,108,101,40,120,59,32,48,32,58,32,48,46,48,48,32,43,32,49,47,49,48,44,32,53,48,48,46,48,48,32,58,32,53,48,46,48,48,32,43,32,49,47,52,41]⟩
def toS:ByteArray:=⟨#[116,111]⟩
def Zt:ByteArray:=⟨#[116,114,117,101]⟩
def Hh:ByteArray:=⟨#[116,114,117,116,104]⟩
def S4:ByteArray:=⟨#[117,110,108,101,115,115]⟩
def L2:ByteArray:=⟨#[119,101,101,107,100,97,121]⟩
def cR:ByteArray:=⟨#[119,104,101,110]⟩
def VA:ByteArray:=⟨#[121,101,97,114]⟩
def fJ:ByteArray:=⟨#[123]⟩
def Z5:ByteArray:=⟨#[125]⟩
end Mo
end Go.Proofs.YtpbkhogolfegfaaGreatDoor
namespace Go.Proofs.YtpbkhogolfegfaaGreatDoor
open AI Go
namespace Mo
set_option maxRecDepth 100000
set_option maxHeartbeats 4000000
def akF(x:Pc):Prop:=(-9223372036854775808<=x.fr/\x.fr<=9223372036854775807)/\(-9223372036854775808<=x.AH/\x.AH<=9223372036854775807)/\(-9223372036854775808<=x.M5/\x.M5<=9223372036854775807)
def pX(x:Fn):Prop:=x.ps.length<=9223372036854775807/\(∀y∈x.ps,akF y)
mutual
def K3:Nd->Prop
 | ⟨kind,name,unit,n,fr,to,known,CZ,kids,AH⟩=>pX CZ/\kids.length<=9223372036854775807/\kG kids
def kG:List Nd->Prop
 | []=>True
 | k::ks=>K3 k/\kG ks
end
def bG{l:List Nd}:kG l↔∀k∈l,K3 k:=by
 induction l with
 | nil=>simp[kG]
 | cons k l ih=>simp[kG,ih]
def Qj(x:Nd):K3 x↔pX x.CZ/\x.kids.length<=9223372036854775807/\∀y∈x.kids,K3 y:=by
 cases x;rw[K3,bG]
end Mo
end Go.Proofs.YtpbkhogolfegfaaGreatDoor
