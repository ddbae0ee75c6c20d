/- Calls that are known, part 0. -/
import Derived.Test.YtnijkdknnmgoeaaGreatHdX
namespace Go.Proofs.YtnijkdknnmgoeaaGreat
open AI
set_option maxRecDepth 100000
set_option maxHeartbeats 4000000
def k0 : AV := strL [102, 97, 99, 116, 32, 97, 32, 58, 32, 110, 117, 109, 98, 101, 114, 59, 32, 108, 105, 110, 101, 32, 108, 32, 58, 32, 69, 85, 82, 32, 101, 97, 114, 110, 59, 32, 97, 114, 116, 105, 99, 108, 101, 32, 49, 32, 102, 111, 114, 32, 108, 32, 114, 97, 110, 107, 32, 48, 32, 102, 114, 111, 109, 32, 50, 48, 50, 52, 45, 48, 49, 45, 48, 49, 32, 107, 110, 111, 119, 110, 32, 50, 48, 50, 52, 45, 48, 49, 45, 48, 49, 32, 123, 32, 119, 104, 101, 110, 32, 97, 32, 33, 61, 32, 51, 59, 32, 97, 109, 111, 117, 110, 116, 32, 69, 85, 82, 32, 49, 46, 48, 48, 32, 42, 32, 97, 59, 32, 125, 32, 97, 114, 116, 105, 99, 108, 101, 32, 50, 32, 102, 111, 114, 32, 108, 32, 114, 97, 110, 107, 32, 48, 32, 102, 114, 111, 109, 32, 50, 48, 50, 52, 45, 48, 49, 45, 48, 49, 32, 116, 111, 32, 50, 48, 50, 53, 45, 48, 49, 45, 48, 49, 32, 107, 110, 111, 119, 110, 32, 50, 48, 50, 52, 45, 48, 49, 45, 48, 49, 32, 123, 32, 119, 104, 101, 110, 32, 119, 101, 101, 107, 100, 97, 121, 32, 61, 61, 32, 49, 59, 32, 119, 104, 101, 110, 32, 97, 32, 33, 61, 32, 51, 59, 32, 97, 109, 111, 117, 110, 116, 32, 97, 114, 116, 32, 51, 59, 32, 125, 32, 97, 114, 116, 105, 99, 108, 101, 32, 51, 32, 102, 111, 114, 32, 108, 32, 114, 97, 110, 107, 32, 48, 32, 102, 114, 111, 109, 32, 50, 48, 50, 52, 45, 48, 49, 45, 48, 49, 32, 107, 110, 111, 119, 110, 32, 50, 48, 50, 52, 45, 48, 50, 45, 48, 49, 32, 123, 32, 117, 110, 108, 101, 115, 115, 32, 49, 59, 32, 97, 109, 111, 117, 110, 116, 32, 69, 85, 82, 32, 48, 46, 48, 48, 59, 32, 125]
def k1 : AV := strL [50, 48, 50, 52, 45, 48, 49, 45, 48, 49]
def k2 : AV := strL [119, 101, 101, 107, 100, 97, 121]
def k3 : AV := strL [97, 114, 116, 105, 99, 108, 101]
def k4 : AV := strL [50, 48, 50, 53, 45, 48, 49, 45, 48, 49]
def k5 : AV := strL [50, 48, 50, 52, 45, 48, 50, 45, 48, 49]
def k6 : AV := .sl .lost 81 [(.sc (.int .i64 (.ofNat 1))), (strL [102, 97, 99, 116]), (.sc (.int .i64 (.ofNat 0))), (.sc (.int .i64 (.ofNat 1))), (strL [97]), (.sc (.int .i64 (.ofNat 5))), (.sc (.int .i64 (.ofNat 6))), (strL [58]), (.sc (.int .i64 (.ofNat 7))), (.sc (.int .i64 (.ofNat 1))), (strL [110, 117, 109, 98, 101, 114]), (.sc (.int .i64 (.ofNat 9))), (.sc (.int .i64 (.ofNat 6))), (strL [59]), (.sc (.int .i64 (.ofNat 15))), (.sc (.int .i64 (.ofNat 1))), (strL [108, 105, 110, 101]), (.sc (.int .i64 (.ofNat 17))), (.sc (.int .i64 (.ofNat 1))), (strL [108]), (.sc (.int .i64 (.ofNat 22))), (.sc (.int .i64 (.ofNat 6))), (strL [58]), (.sc (.int .i64 (.ofNat 24))), (.sc (.int .i64 (.ofNat 2))), (strL [69, 85, 82]), (.sc (.int .i64 (.ofNat 26))), (.sc (.int .i64 (.ofNat 1))), (strL [101, 97, 114, 110]), (.sc (.int .i64 (.ofNat 30))), (.sc (.int .i64 (.ofNat 6))), (strL [59]), (.sc (.int .i64 (.ofNat 34))), (.sc (.int .i64 (.ofNat 1))), k3, (.sc (.int .i64 (.ofNat 36))), (.sc (.int .i64 (.ofNat 3))), (strL [49]), (.sc (.int .i64 (.ofNat 44))), (.sc (.int .i64 (.ofNat 1))), (strL [102, 111, 114]), (.sc (.int .i64 (.ofNat 46))), (.sc (.int .i64 (.ofNat 1))), (strL [108]), (.sc (.int .i64 (.ofNat 50))), (.sc (.int .i64 (.ofNat 1))), (strL [114, 97, 110, 107]), (.sc (.int .i64 (.ofNat 52))), (.sc (.int .i64 (.ofNat 3))), (strL [48]), (.sc (.int .i64 (.ofNat 57))), (.sc (.int .i64 (.ofNat 1))), (strL [102, 114, 111, 109]), (.sc (.int .i64 (.ofNat 59))), (.sc (.int .i64 (.ofNat 5))), k1, (.sc (.int .i64 (.ofNat 64))), (.sc (.int .i64 (.ofNat 1))), (strL [107, 110, 111, 119, 110]), (.sc (.int .i64 (.ofNat 75))), (.sc (.int .i64 (.ofNat 5))), k1, (.sc (.int .i64 (.ofNat 81))), (.sc (.int .i64 (.ofNat 6))), (strL [123]), (.sc (.int .i64 (.ofNat 92))), (.sc (.int .i64 (.ofNat 1))), (strL [119, 104, 101, 110]), (.sc (.int .i64 (.ofNat 94))), (.sc (.int .i64 (.ofNat 1))), (strL [97]), (.sc (.int .i64 (.ofNat 99))), (.sc (.int .i64 (.ofNat 6))), (strL [33, 61]), (.sc (.int .i64 (.ofNat 101))), (.sc (.int .i64 (.ofNat 3))), (strL [51]), (.sc (.int .i64 (.ofNat 104))), (.sc (.int .i64 (.ofNat 6))), (strL [59]), (.sc (.int .i64 (.ofNat 105))), (.sc (.int .i64 (.ofNat 1))), (strL [97, 109, 111, 117, 110, 116]), (.sc (.int .i64 (.ofNat 107))), (.sc (.int .i64 (.ofNat 2))), (strL [69, 85, 82]), (.sc (.int .i64 (.ofNat 114))), (.sc (.int .i64 (.ofNat 4))), (strL [49, 46, 48, 48]), (.sc (.int .i64 (.ofNat 118))), (.sc (.int .i64 (.ofNat 6))), (strL [42]), (.sc (.int .i64 (.ofNat 123))), (.sc (.int .i64 (.ofNat 1))), (strL [97]), (.sc (.int .i64 (.ofNat 125))), (.sc (.int .i64 (.ofNat 6))), (strL [59]), (.sc (.int .i64 (.ofNat 126))), (.sc (.int .i64 (.ofNat 6))), (strL [125]), (.sc (.int .i64 (.ofNat 128))), (.sc (.int .i64 (.ofNat 1))), k3, (.sc (.int .i64 (.ofNat 130))), (.sc (.int .i64 (.ofNat 3))), (strL [50]), (.sc (.int .i64 (.ofNat 138))), (.sc (.int .i64 (.ofNat 1))), (strL [102, 111, 114]), (.sc (.int .i64 (.ofNat 140))), (.sc (.int .i64 (.ofNat 1))), (strL [108]), (.sc (.int .i64 (.ofNat 144))), (.sc (.int .i64 (.ofNat 1))), (strL [114, 97, 110, 107]), (.sc (.int .i64 (.ofNat 146))), (.sc (.int .i64 (.ofNat 3))), (strL [48]), (.sc (.int .i64 (.ofNat 151))), (.sc (.int .i64 (.ofNat 1))), (strL [102, 114, 111, 109]), (.sc (.int .i64 (.ofNat 153))), (.sc (.int .i64 (.ofNat 5))), k1, (.sc (.int .i64 (.ofNat 158))), (.sc (.int .i64 (.ofNat 1))), (strL [116, 111]), (.sc (.int .i64 (.ofNat 169))), (.sc (.int .i64 (.ofNat 5))), k4, (.sc (.int .i64 (.ofNat 172))), (.sc (.int .i64 (.ofNat 1))), (strL [107, 110, 111, 119, 110]), (.sc (.int .i64 (.ofNat 183))), (.sc (.int .i64 (.ofNat 5))), k1, (.sc (.int .i64 (.ofNat 189))), (.sc (.int .i64 (.ofNat 6))), (strL [123]), (.sc (.int .i64 (.ofNat 200))), (.sc (.int .i64 (.ofNat 1))), (strL [119, 104, 101, 110]), (.sc (.int .i64 (.ofNat 202))), (.sc (.int .i64 (.ofNat 1))), k2, (.sc (.int .i64 (.ofNat 207))), (.sc (.int .i64 (.ofNat 6))), (strL [61, 61]), (.sc (.int .i64 (.ofNat 215))), (.sc (.int .i64 (.ofNat 3))), (strL [49]), (.sc (.int .i64 (.ofNat 218))), (.sc (.int .i64 (.ofNat 6))), (strL [59]), (.sc (.int .i64 (.ofNat 219))), (.sc (.int .i64 (.ofNat 1))), (strL [119, 104, 101, 110]), (.sc (.int .i64 (.ofNat 221))), (.sc (.int .i64 (.ofNat 1))), (strL [97]), (.sc (.int .i64 (.ofNat 226))), (.sc (.int .i64 (.ofNat 6))), (strL [33, 61]), (.sc (.int .i64 (.ofNat 228))), (.sc (.int .i64 (.ofNat 3))), (strL [51]), (.sc (.int .i64 (.ofNat 231))), (.sc (.int .i64 (.ofNat 6))), (strL [59]), (.sc (.int .i64 (.ofNat 232))), (.sc (.int .i64 (.ofNat 1))), (strL [97, 109, 111, 117, 110, 116]), (.sc (.int .i64 (.ofNat 234))), (.sc (.int .i64 (.ofNat 1))), (strL [97, 114, 116]), (.sc (.int .i64 (.ofNat 241))), (.sc (.int .i64 (.ofNat 3))), (strL [51]), (.sc (.int .i64 (.ofNat 245))), (.sc (.int .i64 (.ofNat 6))), (strL [59]), (.sc (.int .i64 (.ofNat 246))), (.sc (.int .i64 (.ofNat 6))), (strL [125]), (.sc (.int .i64 (.ofNat 248))), (.sc (.int .i64 (.ofNat 1))), k3, (.sc (.int .i64 (.ofNat 250))), (.sc (.int .i64 (.ofNat 3))), (strL [51]), (.sc (.int .i64 (.ofNat 258))), (.sc (.int .i64 (.ofNat 1))), (strL [102, 111, 114]), (.sc (.int .i64 (.ofNat 260))), (.sc (.int .i64 (.ofNat 1))), (strL [108]), (.sc (.int .i64 (.ofNat 264))), (.sc (.int .i64 (.ofNat 1))), (strL [114, 97, 110, 107]), (.sc (.int .i64 (.ofNat 266))), (.sc (.int .i64 (.ofNat 3))), (strL [48]), (.sc (.int .i64 (.ofNat 271))), (.sc (.int .i64 (.ofNat 1))), (strL [102, 114, 111, 109]), (.sc (.int .i64 (.ofNat 273))), (.sc (.int .i64 (.ofNat 5))), k1, (.sc (.int .i64 (.ofNat 278))), (.sc (.int .i64 (.ofNat 1))), (strL [107, 110, 111, 119, 110]), (.sc (.int .i64 (.ofNat 289))), (.sc (.int .i64 (.ofNat 5))), k5, (.sc (.int .i64 (.ofNat 295))), (.sc (.int .i64 (.ofNat 6))), (strL [123]), (.sc (.int .i64 (.ofNat 306))), (.sc (.int .i64 (.ofNat 1))), (strL [117, 110, 108, 101, 115, 115]), (.sc (.int .i64 (.ofNat 308))), (.sc (.int .i64 (.ofNat 3))), (strL [49]), (.sc (.int .i64 (.ofNat 315))), (.sc (.int .i64 (.ofNat 6))), (strL [59]), (.sc (.int .i64 (.ofNat 316))), (.sc (.int .i64 (.ofNat 1))), (strL [97, 109, 111, 117, 110, 116]), (.sc (.int .i64 (.ofNat 318))), (.sc (.int .i64 (.ofNat 2))), (strL [69, 85, 82]), (.sc (.int .i64 (.ofNat 325))), (.sc (.int .i64 (.ofNat 4))), (strL [48, 46, 48, 48]), (.sc (.int .i64 (.ofNat 329))), (.sc (.int .i64 (.ofNat 6))), (strL [59]), (.sc (.int .i64 (.ofNat 333))), (.sc (.int .i64 (.ofNat 6))), (strL [125]), (.sc (.int .i64 (.ofNat 335)))]
def e0 : Ent := ⟨152, [k0, (.sc (.int .i64 (.ofNat 0)))], none, (.tup [(.agg [(.sc (.int .i64 (.ofNat 1))), (strL [102, 97, 99, 116]), (.sc (.int .i64 (.ofNat 0)))]), (.sc (.bool true))])⟩
theorem e0_ok : EntOk Tryz.prog Hd.G e0 := Hd.entry (l := []) (m := 1000000) Hd.none (by kernel_rfl) (by kernel_rfl)
def e1 : Ent := ⟨152, [k0, (.sc (.int .i64 (.ofNat 15)))], none, (.tup [(.agg [(.sc (.int .i64 (.ofNat 6))), (strL [59]), (.sc (.int .i64 (.ofNat 15)))]), (.sc (.bool true))])⟩
theorem e1_ok : EntOk Tryz.prog Hd.G e1 := Hd.entry (l := []) (m := 1000000) Hd.none (by kernel_rfl) (by kernel_rfl)
def e2 : Ent := ⟨152, [k0, (.sc (.int .i64 (.ofNat 26)))], none, (.tup [(.agg [(.sc (.int .i64 (.ofNat 2))), (strL [69, 85, 82]), (.sc (.int .i64 (.ofNat 26)))]), (.sc (.bool true))])⟩
theorem e2_ok : EntOk Tryz.prog Hd.G e2 := Hd.entry (l := []) (m := 1000000) Hd.none (by kernel_rfl) (by kernel_rfl)
def e3 : Ent := ⟨152, [k0, (.sc (.int .i64 (.ofNat 44)))], none, (.tup [(.agg [(.sc (.int .i64 (.ofNat 3))), (strL [49]), (.sc (.int .i64 (.ofNat 44)))]), (.sc (.bool true))])⟩
theorem e3_ok : EntOk Tryz.prog Hd.G e3 := Hd.entry (l := []) (m := 1000000) Hd.none (by kernel_rfl) (by kernel_rfl)
def e4 : Ent := ⟨152, [k0, (.sc (.int .i64 (.ofNat 57)))], none, (.tup [(.agg [(.sc (.int .i64 (.ofNat 3))), (strL [48]), (.sc (.int .i64 (.ofNat 57)))]), (.sc (.bool true))])⟩
theorem e4_ok : EntOk Tryz.prog Hd.G e4 := Hd.entry (l := []) (m := 1000000) Hd.none (by kernel_rfl) (by kernel_rfl)
def e5 : Ent := ⟨152, [k0, (.sc (.int .i64 (.ofNat 81)))], none, (.tup [(.agg [(.sc (.int .i64 (.ofNat 5))), k1, (.sc (.int .i64 (.ofNat 81)))]), (.sc (.bool true))])⟩
theorem e5_ok : EntOk Tryz.prog Hd.G e5 := Hd.entry (l := []) (m := 1000000) Hd.none (by kernel_rfl) (by kernel_rfl)
def e6 : Ent := ⟨152, [k0, (.sc (.int .i64 (.ofNat 101)))], none, (.tup [(.agg [(.sc (.int .i64 (.ofNat 6))), (strL [33, 61]), (.sc (.int .i64 (.ofNat 101)))]), (.sc (.bool true))])⟩
theorem e6_ok : EntOk Tryz.prog Hd.G e6 := Hd.entry (l := []) (m := 1000000) Hd.none (by kernel_rfl) (by kernel_rfl)
def e7 : Ent := ⟨152, [k0, (.sc (.int .i64 (.ofNat 114)))], none, (.tup [(.agg [(.sc (.int .i64 (.ofNat 2))), (strL [69, 85, 82]), (.sc (.int .i64 (.ofNat 114)))]), (.sc (.bool true))])⟩
theorem e7_ok : EntOk Tryz.prog Hd.G e7 := Hd.entry (l := []) (m := 1000000) Hd.none (by kernel_rfl) (by kernel_rfl)
def e8 : Ent := ⟨152, [k0, (.sc (.int .i64 (.ofNat 126)))], none, (.tup [(.agg [(.sc (.int .i64 (.ofNat 6))), (strL [59]), (.sc (.int .i64 (.ofNat 126)))]), (.sc (.bool true))])⟩
theorem e8_ok : EntOk Tryz.prog Hd.G e8 := Hd.entry (l := []) (m := 1000000) Hd.none (by kernel_rfl) (by kernel_rfl)
def e9 : Ent := ⟨152, [k0, (.sc (.int .i64 (.ofNat 140)))], none, (.tup [(.agg [(.sc (.int .i64 (.ofNat 1))), (strL [102, 111, 114]), (.sc (.int .i64 (.ofNat 140)))]), (.sc (.bool true))])⟩
theorem e9_ok : EntOk Tryz.prog Hd.G e9 := Hd.entry (l := []) (m := 1000000) Hd.none (by kernel_rfl) (by kernel_rfl)
def e10 : Ent := ⟨152, [k0, (.sc (.int .i64 (.ofNat 153)))], none, (.tup [(.agg [(.sc (.int .i64 (.ofNat 1))), (strL [102, 114, 111, 109]), (.sc (.int .i64 (.ofNat 153)))]), (.sc (.bool true))])⟩
theorem e10_ok : EntOk Tryz.prog Hd.G e10 := Hd.entry (l := []) (m := 1000000) Hd.none (by kernel_rfl) (by kernel_rfl)
def e11 : Ent := ⟨152, [k0, (.sc (.int .i64 (.ofNat 183)))], none, (.tup [(.agg [(.sc (.int .i64 (.ofNat 1))), (strL [107, 110, 111, 119, 110]), (.sc (.int .i64 (.ofNat 183)))]), (.sc (.bool true))])⟩
theorem e11_ok : EntOk Tryz.prog Hd.G e11 := Hd.entry (l := []) (m := 1000000) Hd.none (by kernel_rfl) (by kernel_rfl)
def e12 : Ent := ⟨152, [k0, (.sc (.int .i64 (.ofNat 207)))], none, (.tup [(.agg [(.sc (.int .i64 (.ofNat 1))), k2, (.sc (.int .i64 (.ofNat 207)))]), (.sc (.bool true))])⟩
theorem e12_ok : EntOk Tryz.prog Hd.G e12 := Hd.entry (l := []) (m := 1000000) Hd.none (by kernel_rfl) (by kernel_rfl)
def e13 : Ent := ⟨152, [k0, (.sc (.int .i64 (.ofNat 221)))], none, (.tup [(.agg [(.sc (.int .i64 (.ofNat 1))), (strL [119, 104, 101, 110]), (.sc (.int .i64 (.ofNat 221)))]), (.sc (.bool true))])⟩
theorem e13_ok : EntOk Tryz.prog Hd.G e13 := Hd.entry (l := []) (m := 1000000) Hd.none (by kernel_rfl) (by kernel_rfl)
def e14 : Ent := ⟨152, [k0, (.sc (.int .i64 (.ofNat 232)))], none, (.tup [(.agg [(.sc (.int .i64 (.ofNat 6))), (strL [59]), (.sc (.int .i64 (.ofNat 232)))]), (.sc (.bool true))])⟩
theorem e14_ok : EntOk Tryz.prog Hd.G e14 := Hd.entry (l := []) (m := 1000000) Hd.none (by kernel_rfl) (by kernel_rfl)
def e15 : Ent := ⟨152, [k0, (.sc (.int .i64 (.ofNat 246)))], none, (.tup [(.agg [(.sc (.int .i64 (.ofNat 6))), (strL [59]), (.sc (.int .i64 (.ofNat 246)))]), (.sc (.bool true))])⟩
theorem e15_ok : EntOk Tryz.prog Hd.G e15 := Hd.entry (l := []) (m := 1000000) Hd.none (by kernel_rfl) (by kernel_rfl)
def e16 : Ent := ⟨152, [k0, (.sc (.int .i64 (.ofNat 260)))], none, (.tup [(.agg [(.sc (.int .i64 (.ofNat 1))), (strL [102, 111, 114]), (.sc (.int .i64 (.ofNat 260)))]), (.sc (.bool true))])⟩
theorem e16_ok : EntOk Tryz.prog Hd.G e16 := Hd.entry (l := []) (m := 1000000) Hd.none (by kernel_rfl) (by kernel_rfl)
def e17 : Ent := ⟨152, [k0, (.sc (.int .i64 (.ofNat 273)))], none, (.tup [(.agg [(.sc (.int .i64 (.ofNat 1))), (strL [102, 114, 111, 109]), (.sc (.int .i64 (.ofNat 273)))]), (.sc (.bool true))])⟩
theorem e17_ok : EntOk Tryz.prog Hd.G e17 := Hd.entry (l := []) (m := 1000000) Hd.none (by kernel_rfl) (by kernel_rfl)
def e18 : Ent := ⟨152, [k0, (.sc (.int .i64 (.ofNat 306)))], none, (.tup [(.agg [(.sc (.int .i64 (.ofNat 6))), (strL [123]), (.sc (.int .i64 (.ofNat 306)))]), (.sc (.bool true))])⟩
theorem e18_ok : EntOk Tryz.prog Hd.G e18 := Hd.entry (l := []) (m := 1000000) Hd.none (by kernel_rfl) (by kernel_rfl)
def e19 : Ent := ⟨152, [k0, (.sc (.int .i64 (.ofNat 318)))], none, (.tup [(.agg [(.sc (.int .i64 (.ofNat 1))), (strL [97, 109, 111, 117, 110, 116]), (.sc (.int .i64 (.ofNat 318)))]), (.sc (.bool true))])⟩
theorem e19_ok : EntOk Tryz.prog Hd.G e19 := Hd.entry (l := []) (m := 1000000) Hd.none (by kernel_rfl) (by kernel_rfl)
def e20 : Ent := ⟨152, [k0, (.sc (.int .i64 (.ofNat 335)))], none, (.tup [(.agg [(.sc (.int .i64 (.ofNat 6))), (strL [125]), (.sc (.int .i64 (.ofNat 335)))]), (.sc (.bool true))])⟩
theorem e20_ok : EntOk Tryz.prog Hd.G e20 := Hd.entry (l := []) (m := 1000000) Hd.none (by kernel_rfl) (by kernel_rfl)
def e21 : Ent := ⟨152, [k0, (.sc (.int .i64 (.ofNat 5)))], none, (.tup [(.agg [(.sc (.int .i64 (.ofNat 1))), (strL [97]), (.sc (.int .i64 (.ofNat 5)))]), (.sc (.bool true))])⟩
theorem e21_ok : EntOk Tryz.prog Hd.G e21 := Hd.entry (l := []) (m := 1000000) Hd.none (by kernel_rfl) (by kernel_rfl)
def e22 : Ent := ⟨152, [k0, (.sc (.int .i64 (.ofNat 17)))], none, (.tup [(.agg [(.sc (.int .i64 (.ofNat 1))), (strL [108, 105, 110, 101]), (.sc (.int .i64 (.ofNat 17)))]), (.sc (.bool true))])⟩
theorem e22_ok : EntOk Tryz.prog Hd.G e22 := Hd.entry (l := []) (m := 1000000) Hd.none (by kernel_rfl) (by kernel_rfl)
def e23 : Ent := ⟨152, [k0, (.sc (.int .i64 (.ofNat 30)))], none, (.tup [(.agg [(.sc (.int .i64 (.ofNat 1))), (strL [101, 97, 114, 110]), (.sc (.int .i64 (.ofNat 30)))]), (.sc (.bool true))])⟩
theorem e23_ok : EntOk Tryz.prog Hd.G e23 := Hd.entry (l := []) (m := 1000000) Hd.none (by kernel_rfl) (by kernel_rfl)
def e24 : Ent := ⟨152, [k0, (.sc (.int .i64 (.ofNat 46)))], none, (.tup [(.agg [(.sc (.int .i64 (.ofNat 1))), (strL [102, 111, 114]), (.sc (.int .i64 (.ofNat 46)))]), (.sc (.bool true))])⟩
theorem e24_ok : EntOk Tryz.prog Hd.G e24 := Hd.entry (l := []) (m := 1000000) Hd.none (by kernel_rfl) (by kernel_rfl)
def e25 : Ent := ⟨152, [k0, (.sc (.int .i64 (.ofNat 59)))], none, (.tup [(.agg [(.sc (.int .i64 (.ofNat 1))), (strL [102, 114, 111, 109]), (.sc (.int .i64 (.ofNat 59)))]), (.sc (.bool true))])⟩
theorem e25_ok : EntOk Tryz.prog Hd.G e25 := Hd.entry (l := []) (m := 1000000) Hd.none (by kernel_rfl) (by kernel_rfl)
def e26 : Ent := ⟨152, [k0, (.sc (.int .i64 (.ofNat 92)))], none, (.tup [(.agg [(.sc (.int .i64 (.ofNat 6))), (strL [123]), (.sc (.int .i64 (.ofNat 92)))]), (.sc (.bool true))])⟩
theorem e26_ok : EntOk Tryz.prog Hd.G e26 := Hd.entry (l := []) (m := 1000000) Hd.none (by kernel_rfl) (by kernel_rfl)
def e27 : Ent := ⟨152, [k0, (.sc (.int .i64 (.ofNat 104)))], none, (.tup [(.agg [(.sc (.int .i64 (.ofNat 3))), (strL [51]), (.sc (.int .i64 (.ofNat 104)))]), (.sc (.bool true))])⟩
theorem e27_ok : EntOk Tryz.prog Hd.G e27 := Hd.entry (l := []) (m := 1000000) Hd.none (by kernel_rfl) (by kernel_rfl)
def e28 : Ent := ⟨152, [k0, (.sc (.int .i64 (.ofNat 118)))], none, (.tup [(.agg [(.sc (.int .i64 (.ofNat 4))), (strL [49, 46, 48, 48]), (.sc (.int .i64 (.ofNat 118)))]), (.sc (.bool true))])⟩
theorem e28_ok : EntOk Tryz.prog Hd.G e28 := Hd.entry (l := []) (m := 1000000) Hd.none (by kernel_rfl) (by kernel_rfl)
def e29 : Ent := ⟨152, [k0, (.sc (.int .i64 (.ofNat 128)))], none, (.tup [(.agg [(.sc (.int .i64 (.ofNat 6))), (strL [125]), (.sc (.int .i64 (.ofNat 128)))]), (.sc (.bool true))])⟩
theorem e29_ok : EntOk Tryz.prog Hd.G e29 := Hd.entry (l := []) (m := 1000000) Hd.none (by kernel_rfl) (by kernel_rfl)
def e30 : Ent := ⟨152, [k0, (.sc (.int .i64 (.ofNat 144)))], none, (.tup [(.agg [(.sc (.int .i64 (.ofNat 1))), (strL [108]), (.sc (.int .i64 (.ofNat 144)))]), (.sc (.bool true))])⟩
theorem e30_ok : EntOk Tryz.prog Hd.G e30 := Hd.entry (l := []) (m := 1000000) Hd.none (by kernel_rfl) (by kernel_rfl)
def e31 : Ent := ⟨152, [k0, (.sc (.int .i64 (.ofNat 158)))], none, (.tup [(.agg [(.sc (.int .i64 (.ofNat 5))), k1, (.sc (.int .i64 (.ofNat 158)))]), (.sc (.bool true))])⟩
theorem e31_ok : EntOk Tryz.prog Hd.G e31 := Hd.entry (l := []) (m := 1000000) Hd.none (by kernel_rfl) (by kernel_rfl)
def e32 : Ent := ⟨152, [k0, (.sc (.int .i64 (.ofNat 189)))], none, (.tup [(.agg [(.sc (.int .i64 (.ofNat 5))), k1, (.sc (.int .i64 (.ofNat 189)))]), (.sc (.bool true))])⟩
theorem e32_ok : EntOk Tryz.prog Hd.G e32 := Hd.entry (l := []) (m := 1000000) Hd.none (by kernel_rfl) (by kernel_rfl)
def e33 : Ent := ⟨152, [k0, (.sc (.int .i64 (.ofNat 215)))], none, (.tup [(.agg [(.sc (.int .i64 (.ofNat 6))), (strL [61, 61]), (.sc (.int .i64 (.ofNat 215)))]), (.sc (.bool true))])⟩
theorem e33_ok : EntOk Tryz.prog Hd.G e33 := Hd.entry (l := []) (m := 1000000) Hd.none (by kernel_rfl) (by kernel_rfl)
def e34 : Ent := ⟨152, [k0, (.sc (.int .i64 (.ofNat 226)))], none, (.tup [(.agg [(.sc (.int .i64 (.ofNat 1))), (strL [97]), (.sc (.int .i64 (.ofNat 226)))]), (.sc (.bool true))])⟩
theorem e34_ok : EntOk Tryz.prog Hd.G e34 := Hd.entry (l := []) (m := 1000000) Hd.none (by kernel_rfl) (by kernel_rfl)
def e35 : Ent := ⟨152, [k0, (.sc (.int .i64 (.ofNat 234)))], none, (.tup [(.agg [(.sc (.int .i64 (.ofNat 1))), (strL [97, 109, 111, 117, 110, 116]), (.sc (.int .i64 (.ofNat 234)))]), (.sc (.bool true))])⟩
theorem e35_ok : EntOk Tryz.prog Hd.G e35 := Hd.entry (l := []) (m := 1000000) Hd.none (by kernel_rfl) (by kernel_rfl)
def e36 : Ent := ⟨152, [k0, (.sc (.int .i64 (.ofNat 248)))], none, (.tup [(.agg [(.sc (.int .i64 (.ofNat 6))), (strL [125]), (.sc (.int .i64 (.ofNat 248)))]), (.sc (.bool true))])⟩
theorem e36_ok : EntOk Tryz.prog Hd.G e36 := Hd.entry (l := []) (m := 1000000) Hd.none (by kernel_rfl) (by kernel_rfl)
def e37 : Ent := ⟨152, [k0, (.sc (.int .i64 (.ofNat 264)))], none, (.tup [(.agg [(.sc (.int .i64 (.ofNat 1))), (strL [108]), (.sc (.int .i64 (.ofNat 264)))]), (.sc (.bool true))])⟩
theorem e37_ok : EntOk Tryz.prog Hd.G e37 := Hd.entry (l := []) (m := 1000000) Hd.none (by kernel_rfl) (by kernel_rfl)
def e38 : Ent := ⟨152, [k0, (.sc (.int .i64 (.ofNat 278)))], none, (.tup [(.agg [(.sc (.int .i64 (.ofNat 5))), k1, (.sc (.int .i64 (.ofNat 278)))]), (.sc (.bool true))])⟩
theorem e38_ok : EntOk Tryz.prog Hd.G e38 := Hd.entry (l := []) (m := 1000000) Hd.none (by kernel_rfl) (by kernel_rfl)
def e39 : Ent := ⟨152, [k0, (.sc (.int .i64 (.ofNat 308)))], none, (.tup [(.agg [(.sc (.int .i64 (.ofNat 1))), (strL [117, 110, 108, 101, 115, 115]), (.sc (.int .i64 (.ofNat 308)))]), (.sc (.bool true))])⟩
theorem e39_ok : EntOk Tryz.prog Hd.G e39 := Hd.entry (l := []) (m := 1000000) Hd.none (by kernel_rfl) (by kernel_rfl)
def e40 : Ent := ⟨152, [k0, (.sc (.int .i64 (.ofNat 325)))], none, (.tup [(.agg [(.sc (.int .i64 (.ofNat 2))), (strL [69, 85, 82]), (.sc (.int .i64 (.ofNat 325)))]), (.sc (.bool true))])⟩
theorem e40_ok : EntOk Tryz.prog Hd.G e40 := Hd.entry (l := []) (m := 1000000) Hd.none (by kernel_rfl) (by kernel_rfl)
def e41 : Ent := ⟨152, [k0, (.sc (.int .i64 (.ofNat 7)))], none, (.tup [(.agg [(.sc (.int .i64 (.ofNat 6))), (strL [58]), (.sc (.int .i64 (.ofNat 7)))]), (.sc (.bool true))])⟩
theorem e41_ok : EntOk Tryz.prog Hd.G e41 := Hd.entry (l := []) (m := 1000000) Hd.none (by kernel_rfl) (by kernel_rfl)
def e42 : Ent := ⟨152, [k0, (.sc (.int .i64 (.ofNat 22)))], none, (.tup [(.agg [(.sc (.int .i64 (.ofNat 1))), (strL [108]), (.sc (.int .i64 (.ofNat 22)))]), (.sc (.bool true))])⟩
theorem e42_ok : EntOk Tryz.prog Hd.G e42 := Hd.entry (l := []) (m := 1000000) Hd.none (by kernel_rfl) (by kernel_rfl)
def e43 : Ent := ⟨152, [k0, (.sc (.int .i64 (.ofNat 34)))], none, (.tup [(.agg [(.sc (.int .i64 (.ofNat 6))), (strL [59]), (.sc (.int .i64 (.ofNat 34)))]), (.sc (.bool true))])⟩
theorem e43_ok : EntOk Tryz.prog Hd.G e43 := Hd.entry (l := []) (m := 1000000) Hd.none (by kernel_rfl) (by kernel_rfl)
def e44 : Ent := ⟨152, [k0, (.sc (.int .i64 (.ofNat 50)))], none, (.tup [(.agg [(.sc (.int .i64 (.ofNat 1))), (strL [108]), (.sc (.int .i64 (.ofNat 50)))]), (.sc (.bool true))])⟩
theorem e44_ok : EntOk Tryz.prog Hd.G e44 := Hd.entry (l := []) (m := 1000000) Hd.none (by kernel_rfl) (by kernel_rfl)
def e45 : Ent := ⟨152, [k0, (.sc (.int .i64 (.ofNat 64)))], none, (.tup [(.agg [(.sc (.int .i64 (.ofNat 5))), k1, (.sc (.int .i64 (.ofNat 64)))]), (.sc (.bool true))])⟩
theorem e45_ok : EntOk Tryz.prog Hd.G e45 := Hd.entry (l := []) (m := 1000000) Hd.none (by kernel_rfl) (by kernel_rfl)
def e46 : Ent := ⟨152, [k0, (.sc (.int .i64 (.ofNat 94)))], none, (.tup [(.agg [(.sc (.int .i64 (.ofNat 1))), (strL [119, 104, 101, 110]), (.sc (.int .i64 (.ofNat 94)))]), (.sc (.bool true))])⟩
theorem e46_ok : EntOk Tryz.prog Hd.G e46 := Hd.entry (l := []) (m := 1000000) Hd.none (by kernel_rfl) (by kernel_rfl)
def e47 : Ent := ⟨152, [k0, (.sc (.int .i64 (.ofNat 105)))], none, (.tup [(.agg [(.sc (.int .i64 (.ofNat 6))), (strL [59]), (.sc (.int .i64 (.ofNat 105)))]), (.sc (.bool true))])⟩
theorem e47_ok : EntOk Tryz.prog Hd.G e47 := Hd.entry (l := []) (m := 1000000) Hd.none (by kernel_rfl) (by kernel_rfl)
def e48 : Ent := ⟨152, [k0, (.sc (.int .i64 (.ofNat 123)))], none, (.tup [(.agg [(.sc (.int .i64 (.ofNat 6))), (strL [42]), (.sc (.int .i64 (.ofNat 123)))]), (.sc (.bool true))])⟩
theorem e48_ok : EntOk Tryz.prog Hd.G e48 := Hd.entry (l := []) (m := 1000000) Hd.none (by kernel_rfl) (by kernel_rfl)
def e49 : Ent := ⟨152, [k0, (.sc (.int .i64 (.ofNat 130)))], none, (.tup [(.agg [(.sc (.int .i64 (.ofNat 1))), k3, (.sc (.int .i64 (.ofNat 130)))]), (.sc (.bool true))])⟩
theorem e49_ok : EntOk Tryz.prog Hd.G e49 := Hd.entry (l := []) (m := 1000000) Hd.none (by kernel_rfl) (by kernel_rfl)
def e50 : Ent := ⟨152, [k0, (.sc (.int .i64 (.ofNat 146)))], none, (.tup [(.agg [(.sc (.int .i64 (.ofNat 1))), (strL [114, 97, 110, 107]), (.sc (.int .i64 (.ofNat 146)))]), (.sc (.bool true))])⟩
theorem e50_ok : EntOk Tryz.prog Hd.G e50 := Hd.entry (l := []) (m := 1000000) Hd.none (by kernel_rfl) (by kernel_rfl)
def e51 : Ent := ⟨152, [k0, (.sc (.int .i64 (.ofNat 169)))], none, (.tup [(.agg [(.sc (.int .i64 (.ofNat 1))), (strL [116, 111]), (.sc (.int .i64 (.ofNat 169)))]), (.sc (.bool true))])⟩
theorem e51_ok : EntOk Tryz.prog Hd.G e51 := Hd.entry (l := []) (m := 1000000) Hd.none (by kernel_rfl) (by kernel_rfl)
def e52 : Ent := ⟨152, [k0, (.sc (.int .i64 (.ofNat 200)))], none, (.tup [(.agg [(.sc (.int .i64 (.ofNat 6))), (strL [123]), (.sc (.int .i64 (.ofNat 200)))]), (.sc (.bool true))])⟩
theorem e52_ok : EntOk Tryz.prog Hd.G e52 := Hd.entry (l := []) (m := 1000000) Hd.none (by kernel_rfl) (by kernel_rfl)
def e53 : Ent := ⟨152, [k0, (.sc (.int .i64 (.ofNat 218)))], none, (.tup [(.agg [(.sc (.int .i64 (.ofNat 3))), (strL [49]), (.sc (.int .i64 (.ofNat 218)))]), (.sc (.bool true))])⟩
theorem e53_ok : EntOk Tryz.prog Hd.G e53 := Hd.entry (l := []) (m := 1000000) Hd.none (by kernel_rfl) (by kernel_rfl)
def e54 : Ent := ⟨152, [k0, (.sc (.int .i64 (.ofNat 228)))], none, (.tup [(.agg [(.sc (.int .i64 (.ofNat 6))), (strL [33, 61]), (.sc (.int .i64 (.ofNat 228)))]), (.sc (.bool true))])⟩
theorem e54_ok : EntOk Tryz.prog Hd.G e54 := Hd.entry (l := []) (m := 1000000) Hd.none (by kernel_rfl) (by kernel_rfl)
def e55 : Ent := ⟨152, [k0, (.sc (.int .i64 (.ofNat 241)))], none, (.tup [(.agg [(.sc (.int .i64 (.ofNat 1))), (strL [97, 114, 116]), (.sc (.int .i64 (.ofNat 241)))]), (.sc (.bool true))])⟩
theorem e55_ok : EntOk Tryz.prog Hd.G e55 := Hd.entry (l := []) (m := 1000000) Hd.none (by kernel_rfl) (by kernel_rfl)
def e56 : Ent := ⟨152, [k0, (.sc (.int .i64 (.ofNat 250)))], none, (.tup [(.agg [(.sc (.int .i64 (.ofNat 1))), k3, (.sc (.int .i64 (.ofNat 250)))]), (.sc (.bool true))])⟩
theorem e56_ok : EntOk Tryz.prog Hd.G e56 := Hd.entry (l := []) (m := 1000000) Hd.none (by kernel_rfl) (by kernel_rfl)
def e57 : Ent := ⟨152, [k0, (.sc (.int .i64 (.ofNat 266)))], none, (.tup [(.agg [(.sc (.int .i64 (.ofNat 1))), (strL [114, 97, 110, 107]), (.sc (.int .i64 (.ofNat 266)))]), (.sc (.bool true))])⟩
theorem e57_ok : EntOk Tryz.prog Hd.G e57 := Hd.entry (l := []) (m := 1000000) Hd.none (by kernel_rfl) (by kernel_rfl)
def e58 : Ent := ⟨152, [k0, (.sc (.int .i64 (.ofNat 289)))], none, (.tup [(.agg [(.sc (.int .i64 (.ofNat 1))), (strL [107, 110, 111, 119, 110]), (.sc (.int .i64 (.ofNat 289)))]), (.sc (.bool true))])⟩
theorem e58_ok : EntOk Tryz.prog Hd.G e58 := Hd.entry (l := []) (m := 1000000) Hd.none (by kernel_rfl) (by kernel_rfl)
def e59 : Ent := ⟨152, [k0, (.sc (.int .i64 (.ofNat 315)))], none, (.tup [(.agg [(.sc (.int .i64 (.ofNat 3))), (strL [49]), (.sc (.int .i64 (.ofNat 315)))]), (.sc (.bool true))])⟩
theorem e59_ok : EntOk Tryz.prog Hd.G e59 := Hd.entry (l := []) (m := 1000000) Hd.none (by kernel_rfl) (by kernel_rfl)
def e60 : Ent := ⟨152, [k0, (.sc (.int .i64 (.ofNat 329)))], none, (.tup [(.agg [(.sc (.int .i64 (.ofNat 4))), (strL [48, 46, 48, 48]), (.sc (.int .i64 (.ofNat 329)))]), (.sc (.bool true))])⟩
theorem e60_ok : EntOk Tryz.prog Hd.G e60 := Hd.entry (l := []) (m := 1000000) Hd.none (by kernel_rfl) (by kernel_rfl)
def e61 : Ent := ⟨152, [k0, (.sc (.int .i64 (.ofNat 9)))], none, (.tup [(.agg [(.sc (.int .i64 (.ofNat 1))), (strL [110, 117, 109, 98, 101, 114]), (.sc (.int .i64 (.ofNat 9)))]), (.sc (.bool true))])⟩
theorem e61_ok : EntOk Tryz.prog Hd.G e61 := Hd.entry (l := []) (m := 1000000) Hd.none (by kernel_rfl) (by kernel_rfl)
def e62 : Ent := ⟨152, [k0, (.sc (.int .i64 (.ofNat 24)))], none, (.tup [(.agg [(.sc (.int .i64 (.ofNat 6))), (strL [58]), (.sc (.int .i64 (.ofNat 24)))]), (.sc (.bool true))])⟩
theorem e62_ok : EntOk Tryz.prog Hd.G e62 := Hd.entry (l := []) (m := 1000000) Hd.none (by kernel_rfl) (by kernel_rfl)
def e63 : Ent := ⟨152, [k0, (.sc (.int .i64 (.ofNat 36)))], none, (.tup [(.agg [(.sc (.int .i64 (.ofNat 1))), k3, (.sc (.int .i64 (.ofNat 36)))]), (.sc (.bool true))])⟩
theorem e63_ok : EntOk Tryz.prog Hd.G e63 := Hd.entry (l := []) (m := 1000000) Hd.none (by kernel_rfl) (by kernel_rfl)
def e64 : Ent := ⟨152, [k0, (.sc (.int .i64 (.ofNat 52)))], none, (.tup [(.agg [(.sc (.int .i64 (.ofNat 1))), (strL [114, 97, 110, 107]), (.sc (.int .i64 (.ofNat 52)))]), (.sc (.bool true))])⟩
theorem e64_ok : EntOk Tryz.prog Hd.G e64 := Hd.entry (l := []) (m := 1000000) Hd.none (by kernel_rfl) (by kernel_rfl)
def e65 : Ent := ⟨152, [k0, (.sc (.int .i64 (.ofNat 75)))], none, (.tup [(.agg [(.sc (.int .i64 (.ofNat 1))), (strL [107, 110, 111, 119, 110]), (.sc (.int .i64 (.ofNat 75)))]), (.sc (.bool true))])⟩
theorem e65_ok : EntOk Tryz.prog Hd.G e65 := Hd.entry (l := []) (m := 1000000) Hd.none (by kernel_rfl) (by kernel_rfl)
def e66 : Ent := ⟨152, [k0, (.sc (.int .i64 (.ofNat 99)))], none, (.tup [(.agg [(.sc (.int .i64 (.ofNat 1))), (strL [97]), (.sc (.int .i64 (.ofNat 99)))]), (.sc (.bool true))])⟩
theorem e66_ok : EntOk Tryz.prog Hd.G e66 := Hd.entry (l := []) (m := 1000000) Hd.none (by kernel_rfl) (by kernel_rfl)
def e67 : Ent := ⟨152, [k0, (.sc (.int .i64 (.ofNat 107)))], none, (.tup [(.agg [(.sc (.int .i64 (.ofNat 1))), (strL [97, 109, 111, 117, 110, 116]), (.sc (.int .i64 (.ofNat 107)))]), (.sc (.bool true))])⟩
theorem e67_ok : EntOk Tryz.prog Hd.G e67 := Hd.entry (l := []) (m := 1000000) Hd.none (by kernel_rfl) (by kernel_rfl)
def e68 : Ent := ⟨152, [k0, (.sc (.int .i64 (.ofNat 125)))], none, (.tup [(.agg [(.sc (.int .i64 (.ofNat 1))), (strL [97]), (.sc (.int .i64 (.ofNat 125)))]), (.sc (.bool true))])⟩
theorem e68_ok : EntOk Tryz.prog Hd.G e68 := Hd.entry (l := []) (m := 1000000) Hd.none (by kernel_rfl) (by kernel_rfl)
def e69 : Ent := ⟨152, [k0, (.sc (.int .i64 (.ofNat 138)))], none, (.tup [(.agg [(.sc (.int .i64 (.ofNat 3))), (strL [50]), (.sc (.int .i64 (.ofNat 138)))]), (.sc (.bool true))])⟩
theorem e69_ok : EntOk Tryz.prog Hd.G e69 := Hd.entry (l := []) (m := 1000000) Hd.none (by kernel_rfl) (by kernel_rfl)
def e70 : Ent := ⟨152, [k0, (.sc (.int .i64 (.ofNat 151)))], none, (.tup [(.agg [(.sc (.int .i64 (.ofNat 3))), (strL [48]), (.sc (.int .i64 (.ofNat 151)))]), (.sc (.bool true))])⟩
theorem e70_ok : EntOk Tryz.prog Hd.G e70 := Hd.entry (l := []) (m := 1000000) Hd.none (by kernel_rfl) (by kernel_rfl)
def e71 : Ent := ⟨152, [k0, (.sc (.int .i64 (.ofNat 172)))], none, (.tup [(.agg [(.sc (.int .i64 (.ofNat 5))), k4, (.sc (.int .i64 (.ofNat 172)))]), (.sc (.bool true))])⟩
theorem e71_ok : EntOk Tryz.prog Hd.G e71 := Hd.entry (l := []) (m := 1000000) Hd.none (by kernel_rfl) (by kernel_rfl)
def e72 : Ent := ⟨152, [k0, (.sc (.int .i64 (.ofNat 202)))], none, (.tup [(.agg [(.sc (.int .i64 (.ofNat 1))), (strL [119, 104, 101, 110]), (.sc (.int .i64 (.ofNat 202)))]), (.sc (.bool true))])⟩
theorem e72_ok : EntOk Tryz.prog Hd.G e72 := Hd.entry (l := []) (m := 1000000) Hd.none (by kernel_rfl) (by kernel_rfl)
def e73 : Ent := ⟨152, [k0, (.sc (.int .i64 (.ofNat 219)))], none, (.tup [(.agg [(.sc (.int .i64 (.ofNat 6))), (strL [59]), (.sc (.int .i64 (.ofNat 219)))]), (.sc (.bool true))])⟩
theorem e73_ok : EntOk Tryz.prog Hd.G e73 := Hd.entry (l := []) (m := 1000000) Hd.none (by kernel_rfl) (by kernel_rfl)
def e74 : Ent := ⟨152, [k0, (.sc (.int .i64 (.ofNat 231)))], none, (.tup [(.agg [(.sc (.int .i64 (.ofNat 3))), (strL [51]), (.sc (.int .i64 (.ofNat 231)))]), (.sc (.bool true))])⟩
theorem e74_ok : EntOk Tryz.prog Hd.G e74 := Hd.entry (l := []) (m := 1000000) Hd.none (by kernel_rfl) (by kernel_rfl)
def e75 : Ent := ⟨152, [k0, (.sc (.int .i64 (.ofNat 245)))], none, (.tup [(.agg [(.sc (.int .i64 (.ofNat 3))), (strL [51]), (.sc (.int .i64 (.ofNat 245)))]), (.sc (.bool true))])⟩
theorem e75_ok : EntOk Tryz.prog Hd.G e75 := Hd.entry (l := []) (m := 1000000) Hd.none (by kernel_rfl) (by kernel_rfl)
def e76 : Ent := ⟨152, [k0, (.sc (.int .i64 (.ofNat 258)))], none, (.tup [(.agg [(.sc (.int .i64 (.ofNat 3))), (strL [51]), (.sc (.int .i64 (.ofNat 258)))]), (.sc (.bool true))])⟩
theorem e76_ok : EntOk Tryz.prog Hd.G e76 := Hd.entry (l := []) (m := 1000000) Hd.none (by kernel_rfl) (by kernel_rfl)
def e77 : Ent := ⟨152, [k0, (.sc (.int .i64 (.ofNat 271)))], none, (.tup [(.agg [(.sc (.int .i64 (.ofNat 3))), (strL [48]), (.sc (.int .i64 (.ofNat 271)))]), (.sc (.bool true))])⟩
theorem e77_ok : EntOk Tryz.prog Hd.G e77 := Hd.entry (l := []) (m := 1000000) Hd.none (by kernel_rfl) (by kernel_rfl)
def e78 : Ent := ⟨152, [k0, (.sc (.int .i64 (.ofNat 295)))], none, (.tup [(.agg [(.sc (.int .i64 (.ofNat 5))), k5, (.sc (.int .i64 (.ofNat 295)))]), (.sc (.bool true))])⟩
theorem e78_ok : EntOk Tryz.prog Hd.G e78 := Hd.entry (l := []) (m := 1000000) Hd.none (by kernel_rfl) (by kernel_rfl)
def e79 : Ent := ⟨152, [k0, (.sc (.int .i64 (.ofNat 316)))], none, (.tup [(.agg [(.sc (.int .i64 (.ofNat 6))), (strL [59]), (.sc (.int .i64 (.ofNat 316)))]), (.sc (.bool true))])⟩
theorem e79_ok : EntOk Tryz.prog Hd.G e79 := Hd.entry (l := []) (m := 1000000) Hd.none (by kernel_rfl) (by kernel_rfl)
def e80 : Ent := ⟨152, [k0, (.sc (.int .i64 (.ofNat 333)))], none, (.tup [(.agg [(.sc (.int .i64 (.ofNat 6))), (strL [59]), (.sc (.int .i64 (.ofNat 333)))]), (.sc (.bool true))])⟩
theorem e80_ok : EntOk Tryz.prog Hd.G e80 := Hd.entry (l := []) (m := 1000000) Hd.none (by kernel_rfl) (by kernel_rfl)
def e81 : Ent := ⟨115, [k0], none, (.tup [k6, (.sc (.int .i64 (.ofNat 0))), (.sc (.int .i64 (.ofNat 0)))])⟩
theorem e81_ok : EntOk Tryz.prog Hd.G e81 := Hd.entry (l := [e0, e1, e2, e3, e4, e5, e6, e7, e8, e9, e10, e11, e12, e13, e14, e15, e16, e17, e18, e19, e20, e21, e22, e23, e24, e25, e26, e27, e28, e29, e30, e31, e32, e33, e34, e35, e36, e37, e38, e39, e40, e41, e42, e43, e44, e45, e46, e47, e48, e49, e50, e51, e52, e53, e54, e55, e56, e57, e58, e59, e60, e61, e62, e63, e64, e65, e66, e67, e68, e69, e70, e71, e72, e73, e74, e75, e76, e77, e78, e79, e80]) (m := 1000000) (AllOk.cons e0_ok (AllOk.cons e1_ok (AllOk.cons e2_ok (AllOk.cons e3_ok (AllOk.cons e4_ok (AllOk.cons e5_ok (AllOk.cons e6_ok (AllOk.cons e7_ok (AllOk.cons e8_ok (AllOk.cons e9_ok (AllOk.cons e10_ok (AllOk.cons e11_ok (AllOk.cons e12_ok (AllOk.cons e13_ok (AllOk.cons e14_ok (AllOk.cons e15_ok (AllOk.cons e16_ok (AllOk.cons e17_ok (AllOk.cons e18_ok (AllOk.cons e19_ok (AllOk.cons e20_ok (AllOk.cons e21_ok (AllOk.cons e22_ok (AllOk.cons e23_ok (AllOk.cons e24_ok (AllOk.cons e25_ok (AllOk.cons e26_ok (AllOk.cons e27_ok (AllOk.cons e28_ok (AllOk.cons e29_ok (AllOk.cons e30_ok (AllOk.cons e31_ok (AllOk.cons e32_ok (AllOk.cons e33_ok (AllOk.cons e34_ok (AllOk.cons e35_ok (AllOk.cons e36_ok (AllOk.cons e37_ok (AllOk.cons e38_ok (AllOk.cons e39_ok (AllOk.cons e40_ok (AllOk.cons e41_ok (AllOk.cons e42_ok (AllOk.cons e43_ok (AllOk.cons e44_ok (AllOk.cons e45_ok (AllOk.cons e46_ok (AllOk.cons e47_ok (AllOk.cons e48_ok (AllOk.cons e49_ok (AllOk.cons e50_ok (AllOk.cons e51_ok (AllOk.cons e52_ok (AllOk.cons e53_ok (AllOk.cons e54_ok (AllOk.cons e55_ok (AllOk.cons e56_ok (AllOk.cons e57_ok (AllOk.cons e58_ok (AllOk.cons e59_ok (AllOk.cons e60_ok (AllOk.cons e61_ok (AllOk.cons e62_ok (AllOk.cons e63_ok (AllOk.cons e64_ok (AllOk.cons e65_ok (AllOk.cons e66_ok (AllOk.cons e67_ok (AllOk.cons e68_ok (AllOk.cons e69_ok (AllOk.cons e70_ok (AllOk.cons e71_ok (AllOk.cons e72_ok (AllOk.cons e73_ok (AllOk.cons e74_ok (AllOk.cons e75_ok (AllOk.cons e76_ok (AllOk.cons e77_ok (AllOk.cons e78_ok (AllOk.cons e79_ok (AllOk.cons e80_ok Hd.none))))))))))))))))))))))))))))))))))))))))))))))))))))))))))))))))))))))))))))))))) (by kernel_rfl) (by kernel_rfl)
end Go.Proofs.YtnijkdknnmgoeaaGreat
