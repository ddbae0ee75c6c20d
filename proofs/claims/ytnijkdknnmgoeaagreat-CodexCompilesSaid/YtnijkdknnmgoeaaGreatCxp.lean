/- Part of a proof: see the last text. -/
import Derived.Test.YtnijkdknnmgoeaaGreatCxo
set_option linter.unusedVariables false
set_option linter.unusedSimpArgs false
namespace Go.Proofs.YtnijkdknnmgoeaaGreat
open AI
set_option maxRecDepth 100000
set_option maxHeartbeats 4000000
def k23:AV:=.sl .lost 1 [(.sc (.int .i64 (.ofNat 11))),(Ai []),(Ai [110,117,109,98,101,114]),(.sc (.int .i64 (.ofNat 1))),(.sc (.int .i64 (.ofNat 0))),(.sc (.int .i64 (.ofNat 0))),(.sc (.int .i64 (.ofNat 0))),(.sc (.int .i64 (.ofNat 0))),(.sl .full 0 []),(.sl .full 0 []),(.sc (.int .i64 (.ofNat 315)))]
def k24:AV:=.sl .full 1 [(.sc (.int .i64 (.ofNat 11))),(Ai []),(Ai [69,85,82]),(.sc (.int .i64 (.ofNat 0))),(.sc (.int .i64 (.ofNat 0))),(.sc (.int .i64 (.ofNat 0))),(.sc (.int .i64 (.ofNat 0))),(.sc (.int .i64 (.ofNat 0))),(.sl .full 0 []),(.sl .full 0 []),(.sc (.int .i64 (.ofNat 325)))]
def k25:AV:=.sl .lost 2 [(.sc (.int .i64 (.ofNat 7))),(Ai []),(Ai []),(.sc (.int .i64 (.ofNat 0))),(.sc (.int .i64 (.ofNat 0))),(.sc (.int .i64 (.ofNat 0))),(.sc (.int .i64 (.ofNat 0))),(.sc (.int .i64 (.ofNat 0))),(.sl .full 0 []),k23,(.sc (.int .i64 (.ofNat 308))),(.sc (.int .i64 (.ofNat 8))),(Ai []),(Ai []),(.sc (.int .i64 (.ofNat 0))),(.sc (.int .i64 (.ofNat 0))),(.sc (.int .i64 (.ofNat 0))),(.sc (.int .i64 (.ofNat 0))),(.sc (.int .i64 (.ofNat 0))),(.sl .full 0 []),k24,(.sc (.int .i64 (.ofNat 318)))]
def k26:AV:=.sl .lost 3 [(.sc (.int .i64 (.ofNat 5))),(Ai []),(Ai []),(.sc (.int .i64 (.ofNat 0))),(.sc (.int .i64 (.ofNat 8766))),(.sc (.int .i64 (.ofNat 36525))),(.sc (.int .i64 (.ofNat 8797))),(.sc (.int .i64 (.ofNat 0))),(.sl .full 0 []),(.sl .full 0 []),(.sc (.int .i64 (.ofNat 266))),(.sc (.int .i64 (.ofNat 7))),(Ai []),(Ai []),(.sc (.int .i64 (.ofNat 0))),(.sc (.int .i64 (.ofNat 0))),(.sc (.int .i64 (.ofNat 0))),(.sc (.int .i64 (.ofNat 0))),(.sc (.int .i64 (.ofNat 0))),(.sl .full 0 []),k23,(.sc (.int .i64 (.ofNat 308))),(.sc (.int .i64 (.ofNat 8))),(Ai []),(Ai []),(.sc (.int .i64 (.ofNat 0))),(.sc (.int .i64 (.ofNat 0))),(.sc (.int .i64 (.ofNat 0))),(.sc (.int .i64 (.ofNat 0))),(.sc (.int .i64 (.ofNat 0))),(.sl .full 0 []),k24,(.sc (.int .i64 (.ofNat 318)))]
def k27:AV:=.sl .lost 5 [(.sc (.int .i64 (.ofNat 2))),(Ai [97]),(Ai [110,117,109,98,101,114]),(.sc (.int .i64 (.ofNat 0))),(.sc (.int .i64 (.ofNat 0))),(.sc (.int .i64 (.ofNat 0))),(.sc (.int .i64 (.ofNat 0))),(.sc (.int .i64 (.ofNat 0))),(.sl .full 0 []),(.sl .full 0 []),(.sc (.int .i64 (.ofNat 0))),(.sc (.int .i64 (.ofNat 3))),(Ai [108]),(Ai [69,85,82]),(.sc (.int .i64 (.ofNat 1))),(.sc (.int .i64 (.ofNat 0))),(.sc (.int .i64 (.ofNat 0))),(.sc (.int .i64 (.ofNat 0))),(.sc (.int .i64 (.ofNat 0))),(.sl .full 0 []),(.sl .full 0 []),(.sc (.int .i64 (.ofNat 17))),(.sc (.int .i64 (.ofNat 4))),(Ai [108]),(Ai []),(.sc (.int .i64 (.ofNat 1))),(.sc (.int .i64 (.ofNat 0))),(.sc (.int .i64 (.ofNat 0))),(.sc (.int .i64 (.ofNat 0))),(.sc (.int .i64 (.ofNat 0))),(.sl .full 0 []),gH,(.sc (.int .i64 (.ofNat 36))),(.sc (.int .i64 (.ofNat 4))),(Ai [108]),(Ai []),(.sc (.int .i64 (.ofNat 2))),(.sc (.int .i64 (.ofNat 0))),(.sc (.int .i64 (.ofNat 0))),(.sc (.int .i64 (.ofNat 0))),(.sc (.int .i64 (.ofNat 0))),(.sl .full 0 []),k22,(.sc (.int .i64 (.ofNat 130))),(.sc (.int .i64 (.ofNat 4))),(Ai [108]),(Ai []),(.sc (.int .i64 (.ofNat 3))),(.sc (.int .i64 (.ofNat 0))),(.sc (.int .i64 (.ofNat 0))),(.sc (.int .i64 (.ofNat 0))),(.sc (.int .i64 (.ofNat 0))),(.sl .full 0 []),k26,(.sc (.int .i64 (.ofNat 250)))]
def S2:AV:=Ai [108,105,110,101,32,108,32,58,32,69,85,82,32,101,97,114,110,59,32,97,114,116,105,99,108,101,32,49,32,102,111,114,32,108,32,114,97,110,107,32,48,32,102,114,111,109,32,50,48,50,52,45,48,49,45,48,49,32,107,110,111,119,110,32,50,48,50,52,45,48,49,45,48,49,32,123,32,97,109,111,117,110,116,32,49,59,32,125]
def fD:AV:=.sl .lost 21 [(.sc (.int .i64 (.ofNat 1))),(Ai [108,105,110,101]),(.sc (.int .i64 (.ofNat 0))),(.sc (.int .i64 (.ofNat 1))),(Ai [108]),(.sc (.int .i64 (.ofNat 5))),(.sc (.int .i64 (.ofNat 6))),(Ai [58]),(.sc (.int .i64 (.ofNat 7))),(.sc (.int .i64 (.ofNat 2))),(Ai [69,85,82]),(.sc (.int .i64 (.ofNat 9))),(.sc (.int .i64 (.ofNat 1))),(Ai [101,97,114,110]),(.sc (.int .i64 (.ofNat 13))),(.sc (.int .i64 (.ofNat 6))),(Ai [59]),(.sc (.int .i64 (.ofNat 17))),(.sc (.int .i64 (.ofNat 1))),k3,(.sc (.int .i64 (.ofNat 19))),(.sc (.int .i64 (.ofNat 3))),(Ai [49]),(.sc (.int .i64 (.ofNat 27))),(.sc (.int .i64 (.ofNat 1))),(Ai [102,111,114]),(.sc (.int .i64 (.ofNat 29))),(.sc (.int .i64 (.ofNat 1))),(Ai [108]),(.sc (.int .i64 (.ofNat 33))),(.sc (.int .i64 (.ofNat 1))),(Ai [114,97,110,107]),(.sc (.int .i64 (.ofNat 35))),(.sc (.int .i64 (.ofNat 3))),(Ai [48]),(.sc (.int .i64 (.ofNat 40))),(.sc (.int .i64 (.ofNat 1))),(Ai [102,114,111,109]),(.sc (.int .i64 (.ofNat 42))),(.sc (.int .i64 (.ofNat 5))),k1,(.sc (.int .i64 (.ofNat 47))),(.sc (.int .i64 (.ofNat 1))),(Ai [107,110,111,119,110]),(.sc (.int .i64 (.ofNat 58))),(.sc (.int .i64 (.ofNat 5))),k1,(.sc (.int .i64 (.ofNat 64))),(.sc (.int .i64 (.ofNat 6))),(Ai [123]),(.sc (.int .i64 (.ofNat 75))),(.sc (.int .i64 (.ofNat 1))),(Ai [97,109,111,117,110,116]),(.sc (.int .i64 (.ofNat 77))),(.sc (.int .i64 (.ofNat 3))),(Ai [49]),(.sc (.int .i64 (.ofNat 84))),(.sc (.int .i64 (.ofNat 6))),(Ai [59]),(.sc (.int .i64 (.ofNat 85))),(.sc (.int .i64 (.ofNat 6))),(Ai [125]),(.sc (.int .i64 (.ofNat 87)))]
def k30:AV:=.sl .full 1 [(.sc (.int .i64 (.ofNat 11))),(Ai []),(Ai [110,117,109,98,101,114]),(.sc (.int .i64 (.ofNat 1))),(.sc (.int .i64 (.ofNat 0))),(.sc (.int .i64 (.ofNat 0))),(.sc (.int .i64 (.ofNat 0))),(.sc (.int .i64 (.ofNat 0))),(.sl .full 0 []),(.sl .full 0 []),(.sc (.int .i64 (.ofNat 84)))]
def k31:AV:=.sl .lost 1 [(.sc (.int .i64 (.ofNat 8))),(Ai []),(Ai []),(.sc (.int .i64 (.ofNat 0))),(.sc (.int .i64 (.ofNat 0))),(.sc (.int .i64 (.ofNat 0))),(.sc (.int .i64 (.ofNat 0))),(.sc (.int .i64 (.ofNat 0))),(.sl .full 0 []),k30,(.sc (.int .i64 (.ofNat 77)))]
def k32:AV:=.sl .lost 2 [(.sc (.int .i64 (.ofNat 5))),(Ai []),(Ai []),(.sc (.int .i64 (.ofNat 0))),(.sc (.int .i64 (.ofNat 8766))),(.sc (.int .i64 (.ofNat 36525))),(.sc (.int .i64 (.ofNat 8766))),(.sc (.int .i64 (.ofNat 0))),(.sl .full 0 []),(.sl .full 0 []),(.sc (.int .i64 (.ofNat 35))),(.sc (.int .i64 (.ofNat 8))),(Ai []),(Ai []),(.sc (.int .i64 (.ofNat 0))),(.sc (.int .i64 (.ofNat 0))),(.sc (.int .i64 (.ofNat 0))),(.sc (.int .i64 (.ofNat 0))),(.sc (.int .i64 (.ofNat 0))),(.sl .full 0 []),k30,(.sc (.int .i64 (.ofNat 77)))]
def ab5:B5:=⟨160,[],(some ([k6,(.sc (.int .i64 (.ofNat 72))),(.sc (.int .i64 (.ofNat 336))),(.sc (.int .i64 (.ofNat 0))),(.sc (.int .i64 (.ofNat 0)))],[k6,(.sc (.int .i64 (.ofNat 81))),(.sc (.int .i64 (.ofNat 336))),(.sc (.int .i64 (.ofNat 0))),(.sc (.int .i64 (.ofNat 0)))])),k25⟩
theorem mA:AA Tryz.prog Hd.G ab5:=Hd.entry (l:=[e88,e89,e95,e96,e98,adb]) (m:=1000000) (Al.cons Yg (Al.cons Yn (Al.cons gV (Al.cons kS (Al.cons jR (Al.cons qW Hd.none)))))) (by kernel_rfl) (by kernel_rfl)
def abU:B5:=⟨117,[],(some ([k6,(.sc (.int .i64 (.ofNat 62))),(.sc (.int .i64 (.ofNat 336))),(.sc (.int .i64 (.ofNat 0))),(.sc (.int .i64 (.ofNat 0)))],[k6,(.sc (.int .i64 (.ofNat 81))),(.sc (.int .i64 (.ofNat 336))),(.sc (.int .i64 (.ofNat 0))),(.sc (.int .i64 (.ofNat 0)))])),(.agg [(.sc (.int .i64 (.ofNat 4))),(Ai [108]),(Ai []),(.sc (.int .i64 (.ofNat 3))),(.sc (.int .i64 (.ofNat 0))),(.sc (.int .i64 (.ofNat 0))),(.sc (.int .i64 (.ofNat 0))),(.sc (.int .i64 (.ofNat 0))),(.sl .full 0 []),k26,(.sc (.int .i64 (.ofNat 250)))])⟩
theorem pI:AA Tryz.prog Hd.G abU:=Hd.entry (l:=[YC,ZL,lF,e87,e90,tF,e93,lK,s7,e99,cJ,acw,ab5]) (m:=1000000) (Al.cons Jn (Al.cons JA (Al.cons M0 (Al.cons XZ (Al.cons YU (Al.cons O4 (Al.cons kZ (Al.cons MN (Al.cons O3 (Al.cons kO (Al.cons Qi (Al.cons nM (Al.cons mA Hd.none))))))))))))) (by kernel_rfl) (by kernel_rfl)
def acI:B5:=⟨72,[k0],none,(.Bd [(.agg [(.sc (.int .i64 (.ofNat 1))),(Ai []),(Ai []),(.sc (.int .i64 (.ofNat 0))),(.sc (.int .i64 (.ofNat 0))),(.sc (.int .i64 (.ofNat 0))),(.sc (.int .i64 (.ofNat 0))),(.sc (.int .i64 (.ofNat 0))),(.sl .full 0 []),k27,(.sc (.int .i64 (.ofNat 0)))]),(.sl .full 0 [])])⟩
theorem oL:AA Tryz.prog Hd.G acI:=Hd.entry (l:=[e81,e83,e85,e91,ach,abU]) (m:=1000000) (Al.cons vU (Al.cons aal (Al.cons yY (Al.cons vE (Al.cons nZ (Al.cons pI Hd.none)))))) (by kernel_rfl) (by kernel_rfl)
def abO:B5:=⟨152,[S2,(.sc (.int .i64 (.ofNat 0)))],none,(.Bd [(.agg [(.sc (.int .i64 (.ofNat 1))),(Ai [108,105,110,101]),(.sc (.int .i64 (.ofNat 0)))]),(.sc (.bool true))])⟩
theorem mO:AA Tryz.prog Hd.G abO:=Hd.entry (l:=[]) (m:=1000000) Hd.none (by kernel_rfl) (by kernel_rfl)
def ac9:B5:=⟨152,[S2,(.sc (.int .i64 (.ofNat 13)))],none,(.Bd [(.agg [(.sc (.int .i64 (.ofNat 1))),(Ai [101,97,114,110]),(.sc (.int .i64 (.ofNat 13)))]),(.sc (.bool true))])⟩
theorem pO:AA Tryz.prog Hd.G ac9:=Hd.entry (l:=[]) (m:=1000000) Hd.none (by kernel_rfl) (by kernel_rfl)
def abp:B5:=⟨152,[S2,(.sc (.int .i64 (.ofNat 29)))],none,(.Bd [(.agg [(.sc (.int .i64 (.ofNat 1))),(Ai [102,111,114]),(.sc (.int .i64 (.ofNat 29)))]),(.sc (.bool true))])⟩
theorem r9:AA Tryz.prog Hd.G abp:=Hd.entry (l:=[]) (m:=1000000) Hd.none (by kernel_rfl) (by kernel_rfl)
def abd:B5:=⟨152,[S2,(.sc (.int .i64 (.ofNat 42)))],none,(.Bd [(.agg [(.sc (.int .i64 (.ofNat 1))),(Ai [102,114,111,109]),(.sc (.int .i64 (.ofNat 42)))]),(.sc (.bool true))])⟩
theorem nV:AA Tryz.prog Hd.G abd:=Hd.entry (l:=[]) (m:=1000000) Hd.none (by kernel_rfl) (by kernel_rfl)
def ado:B5:=⟨152,[S2,(.sc (.int .i64 (.ofNat 75)))],none,(.Bd [(.agg [(.sc (.int .i64 (.ofNat 6))),(Ai [123]),(.sc (.int .i64 (.ofNat 75)))]),(.sc (.bool true))])⟩
theorem nS:AA Tryz.prog Hd.G ado:=Hd.entry (l:=[]) (m:=1000000) Hd.none (by kernel_rfl) (by kernel_rfl)
def abg:B5:=⟨152,[S2,(.sc (.int .i64 (.ofNat 87)))],none,(.Bd [(.agg [(.sc (.int .i64 (.ofNat 6))),(Ai [125]),(.sc (.int .i64 (.ofNat 87)))]),(.sc (.bool true))])⟩
theorem mP:AA Tryz.prog Hd.G abg:=Hd.entry (l:=[]) (m:=1000000) Hd.none (by kernel_rfl) (by kernel_rfl)
def abt:B5:=⟨152,[S2,(.sc (.int .i64 (.ofNat 5)))],none,(.Bd [(.agg [(.sc (.int .i64 (.ofNat 1))),(Ai [108]),(.sc (.int .i64 (.ofNat 5)))]),(.sc (.bool true))])⟩
theorem sB:AA Tryz.prog Hd.G abt:=Hd.entry (l:=[]) (m:=1000000) Hd.none (by kernel_rfl) (by kernel_rfl)
def abA:B5:=⟨152,[S2,(.sc (.int .i64 (.ofNat 17)))],none,(.Bd [(.agg [(.sc (.int .i64 (.ofNat 6))),(Ai [59]),(.sc (.int .i64 (.ofNat 17)))]),(.sc (.bool true))])⟩
theorem pX:AA Tryz.prog Hd.G abA:=Hd.entry (l:=[]) (m:=1000000) Hd.none (by kernel_rfl) (by kernel_rfl)
def adg:B5:=⟨152,[S2,(.sc (.int .i64 (.ofNat 33)))],none,(.Bd [(.agg [(.sc (.int .i64 (.ofNat 1))),(Ai [108]),(.sc (.int .i64 (.ofNat 33)))]),(.sc (.bool true))])⟩
theorem lR:AA Tryz.prog Hd.G adg:=Hd.entry (l:=[]) (m:=1000000) Hd.none (by kernel_rfl) (by kernel_rfl)
def abk:B5:=⟨152,[S2,(.sc (.int .i64 (.ofNat 47)))],none,(.Bd [(.agg [(.sc (.int .i64 (.ofNat 5))),k1,(.sc (.int .i64 (.ofNat 47)))]),(.sc (.bool true))])⟩
theorem p8:AA Tryz.prog Hd.G abk:=Hd.entry (l:=[]) (m:=1000000) Hd.none (by kernel_rfl) (by kernel_rfl)
def acL:B5:=⟨152,[S2,(.sc (.int .i64 (.ofNat 77)))],none,(.Bd [(.agg [(.sc (.int .i64 (.ofNat 1))),(Ai [97,109,111,117,110,116]),(.sc (.int .i64 (.ofNat 77)))]),(.sc (.bool true))])⟩
theorem p5:AA Tryz.prog Hd.G acL:=Hd.entry (l:=[]) (m:=1000000) Hd.none (by kernel_rfl) (by kernel_rfl)
def ab7:B5:=⟨152,[S2,(.sc (.int .i64 (.ofNat 7)))],none,(.Bd [(.agg [(.sc (.int .i64 (.ofNat 6))),(Ai [58]),(.sc (.int .i64 (.ofNat 7)))]),(.sc (.bool true))])⟩
theorem mL:AA Tryz.prog Hd.G ab7:=Hd.entry (l:=[]) (m:=1000000) Hd.none (by kernel_rfl) (by kernel_rfl)
def abe:B5:=⟨152,[S2,(.sc (.int .i64 (.ofNat 19)))],none,(.Bd [(.agg [(.sc (.int .i64 (.ofNat 1))),k3,(.sc (.int .i64 (.ofNat 19)))]),(.sc (.bool true))])⟩
theorem lV:AA Tryz.prog Hd.G abe:=Hd.entry (l:=[]) (m:=1000000) Hd.none (by kernel_rfl) (by kernel_rfl)
def abT:B5:=⟨152,[S2,(.sc (.int .i64 (.ofNat 35)))],none,(.Bd [(.agg [(.sc (.int .i64 (.ofNat 1))),(Ai [114,97,110,107]),(.sc (.int .i64 (.ofNat 35)))]),(.sc (.bool true))])⟩
theorem qA:AA Tryz.prog Hd.G abT:=Hd.entry (l:=[]) (m:=1000000) Hd.none (by kernel_rfl) (by kernel_rfl)
def ac6:B5:=⟨152,[S2,(.sc (.int .i64 (.ofNat 58)))],none,(.Bd [(.agg [(.sc (.int .i64 (.ofNat 1))),(Ai [107,110,111,119,110]),(.sc (.int .i64 (.ofNat 58)))]),(.sc (.bool true))])⟩
theorem rB:AA Tryz.prog Hd.G ac6:=Hd.entry (l:=[]) (m:=1000000) Hd.none (by kernel_rfl) (by kernel_rfl)
def acT:B5:=⟨152,[S2,(.sc (.int .i64 (.ofNat 84)))],none,(.Bd [(.agg [(.sc (.int .i64 (.ofNat 3))),(Ai [49]),(.sc (.int .i64 (.ofNat 84)))]),(.sc (.bool true))])⟩
theorem rY:AA Tryz.prog Hd.G acT:=Hd.entry (l:=[]) (m:=1000000) Hd.none (by kernel_rfl) (by kernel_rfl)
def abC:B5:=⟨152,[S2,(.sc (.int .i64 (.ofNat 9)))],none,(.Bd [(.agg [(.sc (.int .i64 (.ofNat 2))),(Ai [69,85,82]),(.sc (.int .i64 (.ofNat 9)))]),(.sc (.bool true))])⟩
theorem rE:AA Tryz.prog Hd.G abC:=Hd.entry (l:=[]) (m:=1000000) Hd.none (by kernel_rfl) (by kernel_rfl)
def aa4:B5:=⟨152,[S2,(.sc (.int .i64 (.ofNat 27)))],none,(.Bd [(.agg [(.sc (.int .i64 (.ofNat 3))),(Ai [49]),(.sc (.int .i64 (.ofNat 27)))]),(.sc (.bool true))])⟩
theorem oO:AA Tryz.prog Hd.G aa4:=Hd.entry (l:=[]) (m:=1000000) Hd.none (by kernel_rfl) (by kernel_rfl)
def abq:B5:=⟨152,[S2,(.sc (.int .i64 (.ofNat 40)))],none,(.Bd [(.agg [(.sc (.int .i64 (.ofNat 3))),(Ai [48]),(.sc (.int .i64 (.ofNat 40)))]),(.sc (.bool true))])⟩
theorem qG:AA Tryz.prog Hd.G abq:=Hd.entry (l:=[]) (m:=1000000) Hd.none (by kernel_rfl) (by kernel_rfl)
def aba:B5:=⟨152,[S2,(.sc (.int .i64 (.ofNat 64)))],none,(.Bd [(.agg [(.sc (.int .i64 (.ofNat 5))),k1,(.sc (.int .i64 (.ofNat 64)))]),(.sc (.bool true))])⟩
theorem pT:AA Tryz.prog Hd.G aba:=Hd.entry (l:=[]) (m:=1000000) Hd.none (by kernel_rfl) (by kernel_rfl)
def abD:B5:=⟨152,[S2,(.sc (.int .i64 (.ofNat 85)))],none,(.Bd [(.agg [(.sc (.int .i64 (.ofNat 6))),(Ai [59]),(.sc (.int .i64 (.ofNat 85)))]),(.sc (.bool true))])⟩
theorem oZ:AA Tryz.prog Hd.G abD:=Hd.entry (l:=[]) (m:=1000000) Hd.none (by kernel_rfl) (by kernel_rfl)
def ab4:B5:=⟨115,[S2],none,(.Bd [fD,(.sc (.int .i64 (.ofNat 0))),(.sc (.int .i64 (.ofNat 0)))])⟩
theorem nX:AA Tryz.prog Hd.G ab4:=Hd.entry (l:=[abO,ac9,abp,abd,ado,abg,abt,abA,adg,abk,acL,ab7,abe,abT,ac6,acT,abC,aa4,abq,aba,abD]) (m:=1000000) (Al.cons mO (Al.cons pO (Al.cons r9 (Al.cons nV (Al.cons nS (Al.cons mP (Al.cons sB (Al.cons pX (Al.cons lR (Al.cons p8 (Al.cons p5 (Al.cons mL (Al.cons lV (Al.cons qA (Al.cons rB (Al.cons rY (Al.cons rE (Al.cons oO (Al.cons qG (Al.cons pT (Al.cons oZ Hd.none))))))))))))))))))))) (by kernel_rfl) (by kernel_rfl)
def acu:B5:=⟨117,[],(some ([fD,(.sc (.int .i64 (.ofNat 0))),(.sc (.int .i64 (.ofNat 88))),(.sc (.int .i64 (.ofNat 0))),(.sc (.int .i64 (.ofNat 0)))],[fD,(.sc (.int .i64 (.ofNat 6))),(.sc (.int .i64 (.ofNat 88))),(.sc (.int .i64 (.ofNat 0))),(.sc (.int .i64 (.ofNat 0)))])),(.agg [(.sc (.int .i64 (.ofNat 3))),(Ai [108]),(Ai [69,85,82]),(.sc (.int .i64 (.ofNat 1))),(.sc (.int .i64 (.ofNat 0))),(.sc (.int .i64 (.ofNat 0))),(.sc (.int .i64 (.ofNat 0))),(.sc (.int .i64 (.ofNat 0))),(.sl .full 0 []),(.sl .full 0 []),(.sc (.int .i64 (.ofNat 0)))])⟩
theorem mC:AA Tryz.prog Hd.G acu:=Hd.entry (l:=[YC,ZL,lF,tF,lK,s7,cJ]) (m:=1000000) (Al.cons Jn (Al.cons JA (Al.cons M0 (Al.cons O4 (Al.cons MN (Al.cons O3 (Al.cons Qi Hd.none))))))) (by kernel_rfl) (by kernel_rfl)
def abi:B5:=⟨159,[],(some ([fD,(.sc (.int .i64 (.ofNat 10))),(.sc (.int .i64 (.ofNat 88))),(.sc (.int .i64 (.ofNat 0))),(.sc (.int .i64 (.ofNat 0)))],[fD,(.sc (.int .i64 (.ofNat 16))),(.sc (.int .i64 (.ofNat 88))),(.sc (.int .i64 (.ofNat 0))),(.sc (.int .i64 (.ofNat 0)))])),(.agg [(.sc (.int .i64 (.ofNat 5))),(Ai []),(Ai []),(.sc (.int .i64 (.ofNat 0))),(.sc (.int .i64 (.ofNat 8766))),(.sc (.int .i64 (.ofNat 36525))),(.sc (.int .i64 (.ofNat 8766))),(.sc (.int .i64 (.ofNat 0))),(.sl .full 0 []),(.sl .full 0 []),(.sc (.int .i64 (.ofNat 35)))])⟩
theorem pS:AA Tryz.prog Hd.G abi:=Hd.entry (l:=[lF,tF,cJ]) (m:=1000000) (Al.cons M0 (Al.cons O4 (Al.cons Qi Hd.none))) (by kernel_rfl) (by kernel_rfl)
def abX:B5:=⟨187,[],(some ([fD,(.sc (.int .i64 (.ofNat 18))),(.sc (.int .i64 (.ofNat 88))),(.sc (.int .i64 (.ofNat 0))),(.sc (.int .i64 (.ofNat 0)))],[fD,(.sc (.int .i64 (.ofNat 19))),(.sc (.int .i64 (.ofNat 88))),(.sc (.int .i64 (.ofNat 0))),(.sc (.int .i64 (.ofNat 0)))])),(.agg [(.sc (.int .i64 (.ofNat 11))),(Ai []),(Ai [110,117,109,98,101,114]),(.sc (.int .i64 (.ofNat 1))),(.sc (.int .i64 (.ofNat 0))),(.sc (.int .i64 (.ofNat 0))),(.sc (.int .i64 (.ofNat 0))),(.sc (.int .i64 (.ofNat 0))),(.sl .full 0 []),(.sl .full 0 []),(.sc (.int .i64 (.ofNat 84)))])⟩
theorem p4:AA Tryz.prog Hd.G abX:=Hd.entry (l:=[YC,ZL,lK,s7]) (m:=1000000) (Al.cons Jn (Al.cons JA (Al.cons MN (Al.cons O3 Hd.none)))) (by kernel_rfl) (by kernel_rfl)
def aa3:B5:=⟨160,[],(some ([fD,(.sc (.int .i64 (.ofNat 16))),(.sc (.int .i64 (.ofNat 88))),(.sc (.int .i64 (.ofNat 0))),(.sc (.int .i64 (.ofNat 0)))],[fD,(.sc (.int .i64 (.ofNat 21))),(.sc (.int .i64 (.ofNat 88))),(.sc (.int .i64 (.ofNat 0))),(.sc (.int .i64 (.ofNat 0)))])),k31⟩
theorem nD:AA Tryz.prog Hd.G aa3:=Hd.entry (l:=[abX]) (m:=1000000) (Al.cons p4 Hd.none) (by kernel_rfl) (by kernel_rfl)
def ac7:B5:=⟨117,[],(some ([fD,(.sc (.int .i64 (.ofNat 6))),(.sc (.int .i64 (.ofNat 88))),(.sc (.int .i64 (.ofNat 0))),(.sc (.int .i64 (.ofNat 0)))],[fD,(.sc (.int .i64 (.ofNat 21))),(.sc (.int .i64 (.ofNat 88))),(.sc (.int .i64 (.ofNat 0))),(.sc (.int .i64 (.ofNat 0)))])),(.agg [(.sc (.int .i64 (.ofNat 4))),(Ai [108]),(Ai []),(.sc (.int .i64 (.ofNat 1))),(.sc (.int .i64 (.ofNat 0))),(.sc (.int .i64 (.ofNat 0))),(.sc (.int .i64 (.ofNat 0))),(.sc (.int .i64 (.ofNat 0))),(.sl .full 0 []),k32,(.sc (.int .i64 (.ofNat 19)))])⟩
theorem qI:AA Tryz.prog Hd.G ac7:=Hd.entry (l:=[YC,ZL,lF,tF,lK,s7,cJ,abi,aa3]) (m:=1000000) (Al.cons Jn (Al.cons JA (Al.cons M0 (Al.cons O4 (Al.cons MN (Al.cons O3 (Al.cons Qi (Al.cons pS (Al.cons nD Hd.none))))))))) (by kernel_rfl) (by kernel_rfl)
end Go.Proofs.YtnijkdknnmgoeaaGreat
namespace Go.Proofs.YtnijkdknnmgoeaaGreat
open AI
set_option maxRecDepth 100000
set_option maxHeartbeats 4000000
def k33:AV:=.sl .lost 2 [(.sc (.int .i64 (.ofNat 3))),(Ai [108]),(Ai [69,85,82]),(.sc (.int .i64 (.ofNat 1))),(.sc (.int .i64 (.ofNat 0))),(.sc (.int .i64 (.ofNat 0))),(.sc (.int .i64 (.ofNat 0))),(.sc (.int .i64 (.ofNat 0))),(.sl .full 0 []),(.sl .full 0 []),(.sc (.int .i64 (.ofNat 0))),(.sc (.int .i64 (.ofNat 4))),(Ai [108]),(Ai []),(.sc (.int .i64 (.ofNat 1))),(.sc (.int .i64 (.ofNat 0))),(.sc (.int .i64 (.ofNat 0))),(.sc (.int .i64 (.ofNat 0))),(.sc (.int .i64 (.ofNat 0))),(.sl .full 0 []),k32,(.sc (.int .i64 (.ofNat 19)))]
def k34:AV:=.sl .lost 2 [(.sc (.int .i64 (.ofNat 2))),(.sc (.int .i64 (.ofNat 0))),(Ai [110,117,109,98,101,114]),(.sc (.int .i64 (.ofNat 0))),(.sl .full 0 []),(.sl .full 0 []),(.sc (.int .i64 (.ofNat 1))),(.sc (.int .i64 (.ofNat 3))),(Ai [110,117,109,98,101,114]),(.sc (.int .i64 (.ofNat 0))),(.sl .full 0 []),(.sl .full 0 [])]
def k35:AV:=.sl .lost 2 [(.sc (.int .i64 (.ofNat 1))),(.sc (.int .i64 (.ofNat 100))),(Ai [69,85,82]),(.sc (.int .i64 (.ofNat 0))),(.sl .full 0 []),(.sl .full 0 []),(.sc (.int .i64 (.ofNat 2))),(.sc (.int .i64 (.ofNat 0))),(Ai [110,117,109,98,101,114]),(.sc (.int .i64 (.ofNat 0))),(.sl .full 0 []),(.sl .full 0 [])]
def k36:AV:=.sl .lost 2 [(.sc (.int .i64 (.ofNat 4))),(.sc (.int .i64 (.ofNat 1))),(Ai [110,117,109,98,101,114]),(.sc (.int .i64 (.ofNat 0))),(.sl .full 0 []),(.sl .full 0 []),(.sc (.int .i64 (.ofNat 1))),(.sc (.int .i64 (.ofNat 1))),(Ai [110,117,109,98,101,114]),(.sc (.int .i64 (.ofNat 0))),(.sl .full 0 []),(.sl .full 0 [])]
def k37:AV:=.sl .lost 2 [(.sc (.int .i64 (.ofNat 8))),(.sc (.int .i64 (.ofNat 0))),(Ai [116,114,117,116,104]),(.sc (.int .i64 (.ofNat 0))),(.sl .full 0 []),k36,(.sc (.int .i64 (.ofNat 5))),(.sc (.int .i64 (.ofNat 0))),(Ai [116,114,117,116,104]),(.sc (.int .i64 (.ofNat 0))),(.sl .full 0 []),(.sl .full 1 [(.sc (.int .i64 (.ofNat 8))),(.sc (.int .i64 (.ofNat 0))),(Ai [116,114,117,116,104]),(.sc (.int .i64 (.ofNat 0))),(.sl .full 0 []),k34])]
def Uy:AV:=.sl .lost 3 [(.sc (.int .i64 (.ofNat 1))),(.sc (.int .i64 (.ofNat 0))),(.sc (.int .i64 (.ofNat 0))),(.sc (.int .i64 (.ofNat 8766))),(.sc (.int .i64 (.ofNat 36525))),(.sc (.int .i64 (.ofNat 8766))),(.sl .lost 1 [(.sc (.int .i64 (.ofNat 5))),(.sc (.int .i64 (.ofNat 0))),(Ai [116,114,117,116,104]),(.sc (.int .i64 (.ofNat 0))),(.sl .full 0 []),(.sl .full 1 [(.sc (.int .i64 (.ofNat 8))),(.sc (.int .i64 (.ofNat 0))),(Ai [116,114,117,116,104]),(.sc (.int .i64 (.ofNat 0))),(.sl .full 0 []),k34])]),(.sl .full 0 []),(.sc (.int .i64 (.ofNat 13))),(.sc (.int .i64 (.ofNat 0))),(Ai [69,85,82]),(.sc (.int .i64 (.ofNat 0))),(.sl .full 0 []),k35,(.sc (.int .i64 (.ofNat 2))),(.sc (.int .i64 (.ofNat 0))),(.sc (.int .i64 (.ofNat 0))),(.sc (.int .i64 (.ofNat 8766))),(.sc (.int .i64 (.ofNat 9132))),(.sc (.int .i64 (.ofNat 8766))),k37,(.sl .full 0 []),(.sc (.int .i64 (.ofNat 3))),(.sc (.int .i64 (.ofNat 3))),(Ai [69,85,82]),(.sc (.int .i64 (.ofNat 0))),(.sl .full 0 []),(.sl .full 0 []),(.sc (.int .i64 (.ofNat 3))),(.sc (.int .i64 (.ofNat 0))),(.sc (.int .i64 (.ofNat 0))),(.sc (.int .i64 (.ofNat 8766))),(.sc (.int .i64 (.ofNat 36525))),(.sc (.int .i64 (.ofNat 8797))),(.sl .full 0 []),(.sl .lost 1 [(.sc (.int .i64 (.ofNat 1)))]),(.sc (.int .i64 (.ofNat 1))),(.sc (.int .i64 (.ofNat 0))),(Ai [69,85,82]),(.sc (.int .i64 (.ofNat 0))),(.sl .full 0 []),(.sl .full 0 [])]
def abz:B5:=⟨72,[S2],none,(.Bd [(.agg [(.sc (.int .i64 (.ofNat 1))),(Ai []),(Ai []),(.sc (.int .i64 (.ofNat 0))),(.sc (.int .i64 (.ofNat 0))),(.sc (.int .i64 (.ofNat 0))),(.sc (.int .i64 (.ofNat 0))),(.sc (.int .i64 (.ofNat 0))),(.sl .full 0 []),k33,(.sc (.int .i64 (.ofNat 0)))]),(.sl .full 0 [])])⟩
theorem oA:AA Tryz.prog Hd.G abz:=Hd.entry (l:=[ab4,acu,ac7]) (m:=1000000) (Al.cons nX (Al.cons mC (Al.cons qI Hd.none))) (by kernel_rfl) (by kernel_rfl)
def xS:B5:=⟨80,[(.agg [(.sc (.int .i64 (.ofNat 2))),(Ai [97]),(Ai [110,117,109,98,101,114]),(.sc (.int .i64 (.ofNat 0))),(.sc (.int .i64 (.ofNat 0))),(.sc (.int .i64 (.ofNat 0))),(.sc (.int .i64 (.ofNat 0))),(.sc (.int .i64 (.ofNat 0))),(.sl .full 0 []),(.sl .full 0 []),(.sc (.int .i64 (.ofNat 0)))]),(.sc (.int .i64 (.ofNat 2)))],(some ([(.sc (.int .i64 (.ofNat 1)))],[(.sc (.int .i64 (.ofNat 2)))])),(.sc (.bool true))⟩
theorem ZP:AA Tryz.prog Hd.G xS:=Hd.entry (l:=[]) (m:=1000000) Hd.none (by kernel_rfl) (by kernel_rfl)
def wB:B5:=⟨80,[(.agg [(.sc (.int .i64 (.ofNat 3))),(Ai [108]),(Ai [69,85,82]),(.sc (.int .i64 (.ofNat 1))),(.sc (.int .i64 (.ofNat 0))),(.sc (.int .i64 (.ofNat 0))),(.sc (.int .i64 (.ofNat 0))),(.sc (.int .i64 (.ofNat 0))),(.sl .full 0 []),(.sl .full 0 []),(.sc (.int .i64 (.ofNat 17)))]),(.sc (.int .i64 (.ofNat 2)))],(some ([(.sc (.int .i64 (.ofNat 2)))],[(.sc (.int .i64 (.ofNat 3)))])),(.sc (.bool true))⟩
theorem ZT:AA Tryz.prog Hd.G wB:=Hd.entry (l:=[]) (m:=1000000) Hd.none (by kernel_rfl) (by kernel_rfl)
def aaR:B5:=⟨80,[(.agg [(.sc (.int .i64 (.ofNat 4))),(Ai [108]),(Ai []),(.sc (.int .i64 (.ofNat 1))),(.sc (.int .i64 (.ofNat 0))),(.sc (.int .i64 (.ofNat 0))),(.sc (.int .i64 (.ofNat 0))),(.sc (.int .i64 (.ofNat 0))),(.sl .full 0 []),gH,(.sc (.int .i64 (.ofNat 36)))]),(.sc (.int .i64 (.ofNat 2)))],(some ([(.sc (.int .i64 (.ofNat 3)))],[(.sc (.int .i64 (.ofNat 13)))])),(.sc (.bool true))⟩
theorem aB:AA Tryz.prog Hd.G aaR:=Hd.entry (l:=[]) (m:=1000000) Hd.none (by kernel_rfl) (by kernel_rfl)
def uV:B5:=⟨80,[(.agg [(.sc (.int .i64 (.ofNat 4))),(Ai [108]),(Ai []),(.sc (.int .i64 (.ofNat 2))),(.sc (.int .i64 (.ofNat 0))),(.sc (.int .i64 (.ofNat 0))),(.sc (.int .i64 (.ofNat 0))),(.sc (.int .i64 (.ofNat 0))),(.sl .full 0 []),k22,(.sc (.int .i64 (.ofNat 130)))]),(.sc (.int .i64 (.ofNat 2)))],(some ([(.sc (.int .i64 (.ofNat 13)))],[(.sc (.int .i64 (.ofNat 25)))])),(.sc (.bool true))⟩
theorem ZI:AA Tryz.prog Hd.G uV:=Hd.entry (l:=[]) (m:=1000000) Hd.none (by kernel_rfl) (by kernel_rfl)
def yG:B5:=⟨80,[(.agg [(.sc (.int .i64 (.ofNat 4))),(Ai [108]),(Ai []),(.sc (.int .i64 (.ofNat 3))),(.sc (.int .i64 (.ofNat 0))),(.sc (.int .i64 (.ofNat 0))),(.sc (.int .i64 (.ofNat 0))),(.sc (.int .i64 (.ofNat 0))),(.sl .full 0 []),k26,(.sc (.int .i64 (.ofNat 250)))]),(.sc (.int .i64 (.ofNat 2)))],(some ([(.sc (.int .i64 (.ofNat 25)))],[(.sc (.int .i64 (.ofNat 31)))])),(.sc (.bool true))⟩
theorem ZE:AA Tryz.prog Hd.G yG:=Hd.entry (l:=[]) (m:=1000000) Hd.none (by kernel_rfl) (by kernel_rfl)
def qY:B5:=⟨45,[(.agg [(.sc (.int .i64 (.ofNat 1))),(Ai []),(Ai []),(.sc (.int .i64 (.ofNat 0))),(.sc (.int .i64 (.ofNat 0))),(.sc (.int .i64 (.ofNat 0))),(.sc (.int .i64 (.ofNat 0))),(.sc (.int .i64 (.ofNat 0))),(.sl .full 0 []),k27,(.sc (.int .i64 (.ofNat 0)))])],none,(.sc (.bool true))⟩
theorem Vw:AA Tryz.prog Hd.G qY:=Hd.entry (l:=[xS,wB,aaR,uV,yG]) (m:=1000000) (Al.cons ZP (Al.cons ZT (Al.cons aB (Al.cons ZI (Al.cons ZE Hd.none))))) (by kernel_rfl) (by kernel_rfl)
def rO:B5:=⟨46,[(.agg [(.sc (.int .i64 (.ofNat 1))),(Ai []),(Ai []),(.sc (.int .i64 (.ofNat 0))),(.sc (.int .i64 (.ofNat 0))),(.sc (.int .i64 (.ofNat 0))),(.sc (.int .i64 (.ofNat 0))),(.sc (.int .i64 (.ofNat 0))),(.sl .full 0 []),k27,(.sc (.int .i64 (.ofNat 0)))])],none,(.sl .full 0 [])⟩
theorem VI:AA Tryz.prog Hd.G rO:=Hd.entry (l:=[]) (m:=1000000) Hd.none (by kernel_rfl) (by kernel_rfl)
def acE:B5:=⟨14,[(.agg [(.sc (.int .i64 (.ofNat 1))),(Ai []),(Ai []),(.sc (.int .i64 (.ofNat 0))),(.sc (.int .i64 (.ofNat 0))),(.sc (.int .i64 (.ofNat 0))),(.sc (.int .i64 (.ofNat 0))),(.sc (.int .i64 (.ofNat 0))),(.sl .full 0 []),k27,(.sc (.int .i64 (.ofNat 0)))])],none,(.Bd [(.agg [(.sl .lost 1 [(Ai [97]),(Ai [110,117,109,98,101,114]),(.sc (.int .i64 (.ofNat 0)))]),(.sl .lost 1 [(Ai [108]),(Ai [69,85,82]),(.sc (.int .i64 (.ofNat 1)))]),Uy]),(.sl .full 0 [])])⟩
theorem mK:AA Tryz.prog Hd.G acE:=Hd.entry (l:=[qY,rO]) (m:=1000000) (Al.cons Vw (Al.cons VI Hd.none)) (by kernel_rfl) (by kernel_rfl)
def abJ:B5:=⟨80,[(.agg [(.sc (.int .i64 (.ofNat 3))),(Ai [108]),(Ai [69,85,82]),(.sc (.int .i64 (.ofNat 1))),(.sc (.int .i64 (.ofNat 0))),(.sc (.int .i64 (.ofNat 0))),(.sc (.int .i64 (.ofNat 0))),(.sc (.int .i64 (.ofNat 0))),(.sl .full 0 []),(.sl .full 0 []),(.sc (.int .i64 (.ofNat 0)))]),(.sc (.int .i64 (.ofNat 2)))],(some ([(.sc (.int .i64 (.ofNat 1)))],[(.sc (.int .i64 (.ofNat 2)))])),(.sc (.bool true))⟩
theorem pC:AA Tryz.prog Hd.G abJ:=Hd.entry (l:=[]) (m:=1000000) Hd.none (by kernel_rfl) (by kernel_rfl)
def abW:B5:=⟨80,[(.agg [(.sc (.int .i64 (.ofNat 4))),(Ai [108]),(Ai []),(.sc (.int .i64 (.ofNat 1))),(.sc (.int .i64 (.ofNat 0))),(.sc (.int .i64 (.ofNat 0))),(.sc (.int .i64 (.ofNat 0))),(.sc (.int .i64 (.ofNat 0))),(.sl .full 0 []),k32,(.sc (.int .i64 (.ofNat 19)))]),(.sc (.int .i64 (.ofNat 2)))],(some ([(.sc (.int .i64 (.ofNat 2)))],[(.sc (.int .i64 (.ofNat 6)))])),(.sc (.bool true))⟩
theorem oB:AA Tryz.prog Hd.G abW:=Hd.entry (l:=[]) (m:=1000000) Hd.none (by kernel_rfl) (by kernel_rfl)
def yP:B5:=⟨45,[(.agg [(.sc (.int .i64 (.ofNat 1))),(Ai []),(Ai []),(.sc (.int .i64 (.ofNat 0))),(.sc (.int .i64 (.ofNat 0))),(.sc (.int .i64 (.ofNat 0))),(.sc (.int .i64 (.ofNat 0))),(.sc (.int .i64 (.ofNat 0))),(.sl .full 0 []),k33,(.sc (.int .i64 (.ofNat 0)))])],none,(.sc (.bool true))⟩
theorem ZO:AA Tryz.prog Hd.G yP:=Hd.entry (l:=[xS,wB,aaR,uV,yG,abJ,abW]) (m:=1000000) (Al.cons ZP (Al.cons ZT (Al.cons aB (Al.cons ZI (Al.cons ZE (Al.cons pC (Al.cons oB Hd.none))))))) (by kernel_rfl) (by kernel_rfl)
def aaM:B5:=⟨46,[(.agg [(.sc (.int .i64 (.ofNat 1))),(Ai []),(Ai []),(.sc (.int .i64 (.ofNat 0))),(.sc (.int .i64 (.ofNat 0))),(.sc (.int .i64 (.ofNat 0))),(.sc (.int .i64 (.ofNat 0))),(.sc (.int .i64 (.ofNat 0))),(.sl .full 0 []),k33,(.sc (.int .i64 (.ofNat 0)))])],none,(.sl .lost 1 [(.sc (.int .i64 (.ofNat 11))),(.sc (.int .i64 (.ofNat 84)))])⟩
theorem ZK:AA Tryz.prog Hd.G aaM:=Hd.entry (l:=[]) (m:=1000000) Hd.none (by kernel_rfl) (by kernel_rfl)
def acP:B5:=⟨14,[(.agg [(.sc (.int .i64 (.ofNat 1))),(Ai []),(Ai []),(.sc (.int .i64 (.ofNat 0))),(.sc (.int .i64 (.ofNat 0))),(.sc (.int .i64 (.ofNat 0))),(.sc (.int .i64 (.ofNat 0))),(.sc (.int .i64 (.ofNat 0))),(.sl .full 0 []),k33,(.sc (.int .i64 (.ofNat 0)))])],none,(.Bd [(.agg [(.sl .full 0 []),(.sl .full 0 []),(.sl .full 0 [])]),(.sl .lost 1 [(.sc (.int .i64 (.ofNat 11))),(.sc (.int .i64 (.ofNat 84)))])])⟩
theorem rK:AA Tryz.prog Hd.G acP:=Hd.entry (l:=[qY,rO,yP,aaM]) (m:=1000000) (Al.cons Vw (Al.cons VI (Al.cons ZO (Al.cons ZK Hd.none)))) (by kernel_rfl) (by kernel_rfl)
def ack:B5:=⟨14,[(.agg [(.sc (.int .i64 (.ofNat 11))),(Ai []),(Ai [110,117,109,98,101,114]),(.sc (.int .i64 (.ofNat 1))),(.sc (.int .i64 (.ofNat 0))),(.sc (.int .i64 (.ofNat 0))),(.sc (.int .i64 (.ofNat 0))),(.sc (.int .i64 (.ofNat 0))),(.sl .full 0 []),(.sl .full 0 []),(.sc (.int .i64 (.ofNat 0)))])],none,(.Bd [(.agg [(.sl .full 0 []),(.sl .full 0 []),(.sl .full 0 [])]),(.sl .full 1 [(.sc (.int .i64 (.ofNat 1))),(.sc (.int .i64 (.ofNat 0)))])])⟩
theorem mG:AA Tryz.prog Hd.G ack:=Hd.entry (l:=[qY,rO,yP,aaM]) (m:=1000000) (Al.cons Vw (Al.cons VI (Al.cons ZO (Al.cons ZK Hd.none)))) (by kernel_rfl) (by kernel_rfl)
def ade:B5:=⟨16,[(.agg [(.sl .lost 1 [(Ai [97]),(Ai [110,117,109,98,101,114]),(.sc (.int .i64 (.ofNat 0)))]),(.sl .lost 1 [(Ai [108]),(Ai [69,85,82]),(.sc (.int .i64 (.ofNat 1)))]),Uy]),(.sc (.int .i64 (.ofNat 2))),(.sc (.int .i64 (.ofNat 8766))),(.sc (.int .i64 (.ofNat 8766)))],none,(.Bd [(.sc (.int .i64 (.ofNat 1))),(.sc (.bool true))])⟩
theorem rL:AA Tryz.prog Hd.G ade:=Hd.entry (l:=[]) (m:=1000000) Hd.none (by kernel_rfl) (by kernel_rfl)
end Go.Proofs.YtnijkdknnmgoeaaGreat
namespace Go.Proofs.YtnijkdknnmgoeaaGreat
open AI
set_option maxRecDepth 100000
set_option maxHeartbeats 4000000
def k39:AV:=.sl .full 2 [(.sc (.int .i64 (.ofNat 2))),(.sc (.int .i64 (.ofNat 0))),(Ai [110,117,109,98,101,114]),(.sc (.int .i64 (.ofNat 0))),(.sl .full 0 []),(.sl .full 0 []),(.sc (.int .i64 (.ofNat 1))),(.sc (.int .i64 (.ofNat 3))),(Ai [110,117,109,98,101,114]),(.sc (.int .i64 (.ofNat 0))),(.sl .full 0 []),(.sl .full 0 [])]
def abF:B5:=⟨16,[(.agg [(.sl .lost 1 [(Ai [97]),(Ai [110,117,109,98,101,114]),(.sc (.int .i64 (.ofNat 0)))]),(.sl .lost 1 [(Ai [108]),(Ai [69,85,82]),(.sc (.int .i64 (.ofNat 1)))]),Uy]),(.sc (.int .i64 (.ofNat 3))),(.sc (.int .i64 (.ofNat 8766))),(.sc (.int .i64 (.ofNat 8796)))],none,(.Bd [(.sc (.int .i64 (.ofNat 0))),(.sc (.bool false))])⟩
theorem sA:AA Tryz.prog Hd.G abF:=Hd.entry (l:=[]) (m:=1000000) Hd.none (by kernel_rfl) (by kernel_rfl)
def adf:B5:=⟨16,[(.agg [(.sl .lost 1 [(Ai [97]),(Ai [110,117,109,98,101,114]),(.sc (.int .i64 (.ofNat 0)))]),(.sl .lost 1 [(Ai [108]),(Ai [69,85,82]),(.sc (.int .i64 (.ofNat 1)))]),Uy]),(.sc (.int .i64 (.ofNat 2))),(.sc (.int .i64 (.ofNat 9132))),(.sc (.int .i64 (.ofNat 9999)))],none,(.Bd [(.sc (.int .i64 (.ofNat 0))),(.sc (.bool false))])⟩
theorem rN:AA Tryz.prog Hd.G adf:=Hd.entry (l:=[]) (m:=1000000) Hd.none (by kernel_rfl) (by kernel_rfl)
def cU:B5:=⟨22,[(.agg [(.sl .lost 1 [(Ai [97]),(Ai [110,117,109,98,101,114]),(.sc (.int .i64 (.ofNat 0)))]),(.sl .lost 1 [(Ai [108]),(Ai [69,85,82]),(.sc (.int .i64 (.ofNat 1)))]),Uy])],none,(.sc (.bool true))⟩
theorem P5:AA Tryz.prog Hd.G cU:=Hd.entry (l:=[]) (m:=1000000) Hd.none (by kernel_rfl) (by kernel_rfl)
def iN:B5:=⟨24,[(.agg [(.sl .lost 1 [(Ai [97]),(Ai [110,117,109,98,101,114]),(.sc (.int .i64 (.ofNat 0)))]),(.sl .lost 1 [(Ai [108]),(Ai [69,85,82]),(.sc (.int .i64 (.ofNat 1)))]),Uy]),(.sc (.int .i64 (.ofNat 0))),(.sc (.int .i64 (.ofNat 0)))],none,(.sc (.bool false))⟩
theorem R1:AA Tryz.prog Hd.G iN:=Hd.entry (l:=[]) (m:=1000000) Hd.none (by kernel_rfl) (by kernel_rfl)
def lA:B5:=⟨24,[(.agg [(.sl .lost 1 [(Ai [97]),(Ai [110,117,109,98,101,114]),(.sc (.int .i64 (.ofNat 0)))]),(.sl .lost 1 [(Ai [108]),(Ai [69,85,82]),(.sc (.int .i64 (.ofNat 1)))]),Uy]),(.sc (.int .i64 (.ofNat 1))),(.sc (.int .i64 (.ofNat 0)))],none,(.sc (.bool true))⟩
theorem RC:AA Tryz.prog Hd.G lA:=Hd.entry (l:=[]) (m:=1000000) Hd.none (by kernel_rfl) (by kernel_rfl)
def iX:B5:=⟨24,[(.agg [(.sl .lost 1 [(Ai [97]),(Ai [110,117,109,98,101,114]),(.sc (.int .i64 (.ofNat 0)))]),(.sl .lost 1 [(Ai [108]),(Ai [69,85,82]),(.sc (.int .i64 (.ofNat 1)))]),Uy]),(.sc (.int .i64 (.ofNat 2))),(.sc (.int .i64 (.ofNat 0)))],none,(.sc (.bool false))⟩
theorem RG:AA Tryz.prog Hd.G iX:=Hd.entry (l:=[]) (m:=1000000) Hd.none (by kernel_rfl) (by kernel_rfl)
def eA:B5:=⟨51,[(.agg [(.sl .lost 1 [(Ai [97]),(Ai [110,117,109,98,101,114]),(.sc (.int .i64 (.ofNat 0)))]),(.sl .lost 1 [(Ai [108]),(Ai [69,85,82]),(.sc (.int .i64 (.ofNat 1)))]),Uy]),(.sc (.int .i64 (.ofNat 0)))],none,(.sl .lost 1 [(.sc (.int .i64 (.ofNat 1)))])⟩
theorem RH:AA Tryz.prog Hd.G eA:=Hd.entry (l:=[iN,lA,iX]) (m:=1000000) (Al.cons R1 (Al.cons RC (Al.cons RG Hd.none))) (by kernel_rfl) (by kernel_rfl)
def r6:B5:=⟨24,[(.agg [(.sl .lost 1 [(Ai [97]),(Ai [110,117,109,98,101,114]),(.sc (.int .i64 (.ofNat 0)))]),(.sl .lost 1 [(Ai [108]),(Ai [69,85,82]),(.sc (.int .i64 (.ofNat 1)))]),Uy]),(.sc (.int .i64 (.ofNat 0))),(.sc (.int .i64 (.ofNat 1)))],none,(.sc (.bool false))⟩
theorem VX:AA Tryz.prog Hd.G r6:=Hd.entry (l:=[]) (m:=1000000) Hd.none (by kernel_rfl) (by kernel_rfl)
def nE:B5:=⟨24,[(.agg [(.sl .lost 1 [(Ai [97]),(Ai [110,117,109,98,101,114]),(.sc (.int .i64 (.ofNat 0)))]),(.sl .lost 1 [(Ai [108]),(Ai [69,85,82]),(.sc (.int .i64 (.ofNat 1)))]),Uy]),(.sc (.int .i64 (.ofNat 1))),(.sc (.int .i64 (.ofNat 1)))],none,(.sc (.bool false))⟩
theorem VK:AA Tryz.prog Hd.G nE:=Hd.entry (l:=[]) (m:=1000000) Hd.none (by kernel_rfl) (by kernel_rfl)
def g9:B5:=⟨51,[(.agg [(.sl .lost 1 [(Ai [97]),(Ai [110,117,109,98,101,114]),(.sc (.int .i64 (.ofNat 0)))]),(.sl .lost 1 [(Ai [108]),(Ai [69,85,82]),(.sc (.int .i64 (.ofNat 1)))]),Uy]),(.sc (.int .i64 (.ofNat 1)))],none,(.sl .lost 1 [(.sc (.int .i64 (.ofNat 2)))])⟩
theorem RK:AA Tryz.prog Hd.G g9:=Hd.entry (l:=[iN,lA,iX,r6,nE]) (m:=1000000) (Al.cons R1 (Al.cons RC (Al.cons RG (Al.cons VX (Al.cons VK Hd.none))))) (by kernel_rfl) (by kernel_rfl)
def xN:B5:=⟨24,[(.agg [(.sl .lost 1 [(Ai [97]),(Ai [110,117,109,98,101,114]),(.sc (.int .i64 (.ofNat 0)))]),(.sl .lost 1 [(Ai [108]),(Ai [69,85,82]),(.sc (.int .i64 (.ofNat 1)))]),Uy]),(.sc (.int .i64 (.ofNat 1))),(.sc (.int .i64 (.ofNat 2)))],none,(.sc (.bool true))⟩
theorem Zt:AA Tryz.prog Hd.G xN:=Hd.entry (l:=[]) (m:=1000000) Hd.none (by kernel_rfl) (by kernel_rfl)
def wV:B5:=⟨24,[(.agg [(.sl .lost 1 [(Ai [97]),(Ai [110,117,109,98,101,114]),(.sc (.int .i64 (.ofNat 0)))]),(.sl .lost 1 [(Ai [108]),(Ai [69,85,82]),(.sc (.int .i64 (.ofNat 1)))]),Uy]),(.sc (.int .i64 (.ofNat 2))),(.sc (.int .i64 (.ofNat 2)))],none,(.sc (.bool false))⟩
theorem Zn:AA Tryz.prog Hd.G wV:=Hd.entry (l:=[]) (m:=1000000) Hd.none (by kernel_rfl) (by kernel_rfl)
def gB:B5:=⟨51,[(.agg [(.sl .lost 1 [(Ai [97]),(Ai [110,117,109,98,101,114]),(.sc (.int .i64 (.ofNat 0)))]),(.sl .lost 1 [(Ai [108]),(Ai [69,85,82]),(.sc (.int .i64 (.ofNat 1)))]),Uy]),(.sc (.int .i64 (.ofNat 2)))],none,(.sl .lost 2 [(.sc (.int .i64 (.ofNat 0))),(.sc (.int .i64 (.ofNat 1)))])⟩
theorem R3:AA Tryz.prog Hd.G gB:=Hd.entry (l:=[iN,lA,iX,r6,nE,xN,wV]) (m:=1000000) (Al.cons R1 (Al.cons RC (Al.cons RG (Al.cons VX (Al.cons VK (Al.cons Zt (Al.cons Zn Hd.none))))))) (by kernel_rfl) (by kernel_rfl)
def aby:B5:=⟨18,[(.agg [(.sl .lost 1 [(Ai [97]),(Ai [110,117,109,98,101,114]),(.sc (.int .i64 (.ofNat 0)))]),(.sl .lost 1 [(Ai [108]),(Ai [69,85,82]),(.sc (.int .i64 (.ofNat 1)))]),Uy])],none,(.Bd [(.sl .full 0 []),(.sc (.bool false))])⟩
theorem lU:AA Tryz.prog Hd.G aby:=Hd.entry (l:=[cU,eA,g9,gB]) (m:=1000000) (Al.cons P5 (Al.cons RH (Al.cons RK (Al.cons R3 Hd.none)))) (by kernel_rfl) (by kernel_rfl)
def ac3:B5:=⟨41,[(.agg [(.sc (.int .i64 (.ofNat 5))),(.sc (.int .i64 (.ofNat 0))),(Ai [116,114,117,116,104]),(.sc (.int .i64 (.ofNat 0))),(.sl .full 0 []),(.sl .full 1 [(.sc (.int .i64 (.ofNat 8))),(.sc (.int .i64 (.ofNat 0))),(Ai [116,114,117,116,104]),(.sc (.int .i64 (.ofNat 0))),(.sl .full 0 []),k34])]),(.agg [(.sc (.int .i64 (.ofNat 5))),(.sc (.int .i64 (.ofNat 0))),(Ai [116,114,117,116,104]),(.sc (.int .i64 (.ofNat 0))),(.sl .full 0 []),(.sl .full 1 [(.sc (.int .i64 (.ofNat 8))),(.sc (.int .i64 (.ofNat 0))),(Ai [116,114,117,116,104]),(.sc (.int .i64 (.ofNat 0))),(.sl .full 0 []),k39])])],none,(.sc (.bool true))⟩
theorem oP:AA Tryz.prog Hd.G ac3:=Hd.entry (l:=[]) (m:=1000000) Hd.none (by kernel_rfl) (by kernel_rfl)
def abj:B5:=⟨24,[(.agg [(.sl .lost 1 [(Ai [97]),(Ai [110,117,109,98,101,114]),(.sc (.int .i64 (.ofNat 0)))]),(.sl .lost 1 [(Ai [108]),(Ai [69,85,82]),(.sc (.int .i64 (.ofNat 1)))]),Uy]),(.sc (.int .i64 (.ofNat 0))),(.sc (.int .i64 (.ofNat 2)))],none,(.sc (.bool true))⟩
theorem p9:AA Tryz.prog Hd.G abj:=Hd.entry (l:=[]) (m:=1000000) Hd.none (by kernel_rfl) (by kernel_rfl)
def abZ:B5:=⟨27,[(.agg [(.sl .lost 1 [(Ai [97]),(Ai [110,117,109,98,101,114]),(.sc (.int .i64 (.ofNat 0)))]),(.sl .lost 1 [(Ai [108]),(Ai [69,85,82]),(.sc (.int .i64 (.ofNat 1)))]),Uy]),(.sc (.int .i64 (.ofNat 2)))],none,(.sl .lost 2 [(.sc (.int .i64 (.ofNat 0))),(.sc (.int .i64 (.ofNat 1)))])⟩
theorem mE:AA Tryz.prog Hd.G abZ:=Hd.entry (l:=[cU,eA,g9,gB]) (m:=1000000) (Al.cons P5 (Al.cons RH (Al.cons RK (Al.cons R3 Hd.none)))) (by kernel_rfl) (by kernel_rfl)
def adn:B5:=⟨27,[(.agg [(.sl .lost 1 [(Ai [97]),(Ai [110,117,109,98,101,114]),(.sc (.int .i64 (.ofNat 0)))]),(.sl .lost 1 [(Ai [108]),(Ai [69,85,82]),(.sc (.int .i64 (.ofNat 1)))]),Uy]),(.sc (.int .i64 (.ofNat 1)))],none,(.sl .lost 1 [(.sc (.int .i64 (.ofNat 2)))])⟩
theorem mT:AA Tryz.prog Hd.G adn:=Hd.entry (l:=[cU,eA,g9,gB]) (m:=1000000) (Al.cons P5 (Al.cons RH (Al.cons RK (Al.cons R3 Hd.none)))) (by kernel_rfl) (by kernel_rfl)
def abV:B5:=⟨27,[(.agg [(.sl .lost 1 [(Ai [97]),(Ai [110,117,109,98,101,114]),(.sc (.int .i64 (.ofNat 0)))]),(.sl .lost 1 [(Ai [108]),(Ai [69,85,82]),(.sc (.int .i64 (.ofNat 1)))]),Uy]),(.sc (.int .i64 (.ofNat 0)))],none,(.sl .lost 1 [(.sc (.int .i64 (.ofNat 1)))])⟩
theorem rA:AA Tryz.prog Hd.G abV:=Hd.entry (l:=[cU,eA,g9,gB]) (m:=1000000) (Al.cons P5 (Al.cons RH (Al.cons RK (Al.cons R3 Hd.none)))) (by kernel_rfl) (by kernel_rfl)
def adE:B5:=⟨11,[],none,(.sc (.bool true))⟩
theorem rC:AA Tryz.prog Hd.G adE:=Hd.entry (l:=[acI,abz,acE,acP,ack,ade,abF,adf,cU,iN,lA,iX,r6,nE,xN,wV,aby,ac3,abj,abZ,adn,abV]) (m:=1000000) (Al.cons oL (Al.cons oA (Al.cons mK (Al.cons rK (Al.cons mG (Al.cons rL (Al.cons sA (Al.cons rN (Al.cons P5 (Al.cons R1 (Al.cons RC (Al.cons RG (Al.cons VX (Al.cons VK (Al.cons Zt (Al.cons Zn (Al.cons lU (Al.cons oP (Al.cons p9 (Al.cons mE (Al.cons mT (Al.cons rA Hd.none)))))))))))))))))))))) (by kernel_rfl) (by kernel_rfl)
end Go.Proofs.YtnijkdknnmgoeaaGreat
namespace Go.Proofs.YtnijkdknnmgoeaaGreat
open AI Go
namespace Mo
set_option maxRecDepth 100000
set_option maxHeartbeats 4000000
noncomputable def ML:Option Bool:=some true
theorem Uj {yR:Bool} (h:ML=some yR):Pure P G 11 [] (.zb yR):=by
 cases h
 exact rC
noncomputable def B4:Code:=AY Tryz.f4
theorem b4:Tryz.f4.body=some B4:=by kernel_rfl
noncomputable def EX  (n:Nd) (y4a:Co) (i0:Nat) (e0:Nd) (w3_0:Int) (w3_1:Int) (w3_2:Int):Option (Lp (Int×Int×Int) (Int×Int×Int) Bool):=cond (Bp e0.kind 2) ((CP y4a.facts w3_0).bind fun x16=>cond (LI x16 (⟨e0.name,e0.unit,0⟩:Dc)) (some (.nx ((BW w3_0 1),w3_1,w3_2))) (some (.rt false))) (cond (Bp e0.kind 3) ((CP y4a.lines w3_1).bind fun x17=>cond (LI x17 (⟨e0.name,e0.unit,e0.n⟩:Dc)) (some (.nx (w3_0,(BW w3_1 1),w3_2))) (some (.rt false))) (cond (Bp e0.kind 4) ((CP y4a.arts w3_2).bind fun x18=>(e0.kids[0]?).bind fun x19=>cond (Bp x18.number e0.n) ((CP y4a.lines x18.line).bind fun x20=>cond (BC x20.name.data.toList e0.name.data.toList) (cond (Bp x18.rank x19.n) (cond (Bp x18.fr x19.fr) (cond (Bp x18.to x19.to) (cond (Bp x18.known x19.known) ((DL e0 6).bind fun y21=>cond (Bp ((x18.wh.length:Nat):Int) y21) (cond (DH 0 ((x18.un.length:Nat):Int)) ((DL e0 7).bind fun y22=>cond (DH 0 y22) (some (.nx (w3_0,w3_1,(BW w3_2 1)))) (some (.rt false))) ((DL e0 7).bind fun y23=>cond (DH 0 y23) (some (.rt false)) (some (.nx (w3_0,w3_1,(BW w3_2 1)))))) (some (.rt false))) (some (.rt false))) (some (.rt false))) (some (.rt false))) (some (.rt false))) (some (.rt false))) (some (.rt false))) (some (.nx (w3_0,w3_1,w3_2)))))
noncomputable def FF  (n:Nd):Option Bool:=(ML).bind fun y1=>(I1 n).bind fun y2=>cond y2 ((GX n).bind fun y3=>cond y3 (cond (Bp n.kind 1) ((DK n).bind fun (y4a,y4b)=>(LJ n).bind fun y5=>(DK y5).bind fun (y6a,y6b)=>cond (Bp ((y4b.length:Nat):Int) ((y6b.length:Nat):Int)) ((Db y4a y6a).bind fun y7=>cond y7 (cond (DH 0 ((y4b.length:Nat):Int)) (cond y1 ((y4b[0]?).bind fun x8=>(y6b[0]?).bind fun x9=>cond (Bp x8.err x9.err) ((Db y4a (⟨[],[],[]⟩:Co)).bind fun y10=>some y10) (some false)) (some false)) ((Ii y4a).bind fun y11=>cond y11 ((Ib n).bind fun y12=>cond (DH 0 ((y12.length:Nat):Int)) (some false) ((DL n 2).bind fun y13=>cond (Bp ((y4a.facts.length:Nat):Int) y13) ((DL n 3).bind fun y14=>cond (Bp ((y4a.lines.length:Nat):Int) y14) ((DL n 4).bind fun y15=>cond (Bp ((y4a.arts.length:Nat):Int) y15) ((GW n.kids.length (AL (fun i y x=>EX  n y4a i y x.1 x.2.1 x.2.2) (fun x=>(x.1,x.2.1,x.2.2)) (n.kids.drop 0) 0 (0,0,0))).bind (GQ (fun ((w3_0_24,w3_1_24,w3_2_24):(Int×Int×Int))=>some y1) (fun v=>some v))) (some false)) (some false)) (some false))) (some false))) (some false)) (some false)) (some y1)) (some y1)) (some y1)
theorem LX   {n:Nd} {yR:Bool} (h:FF  n=some yR):Pure P G 4 [.agg (Bo n)] (.zb yR):=by
 unfold FF at h
 refine BF Hd.mixed Hd.Aa (Ay Tryz.func4 b4 ?_) (AW (Am.Dp n) rfl) rfl
 revert h
 refine Ah fun y1 hy1=>?_
 refine Ah fun y2 hy2=>?_
 let o1:LP:=[An (Uj hy1),An (Rr hy2)]
 refine Ad (fun hv=>?_) fun hv=>?_
 subst hv
 refine Ah fun y3 hy3=>?_
 let o2:LP:=o1++[An (Mg hy3)]
 refine Ad (fun hv=>?_) fun hv=>?_
 subst hv
 refine Ad (fun hb1=>?_) fun hb1=>?_
 refine Ah ?_
 rintro ⟨y4a,y4b⟩ hy4
 dsimp only
 refine Ah fun y5 hy5=>?_
 refine Ah ?_
 rintro ⟨y6a,y6b⟩ hy6
 dsimp only
 let o3:LP:=o2++[pn hb1,An (L4 hy4),An (SD hy5),An (L4 hy6)]
 refine Ad (fun hb2=>?_) fun hb2=>?_
 refine Ah fun y7 hy7=>?_
 let o4:LP:=o3++[pn hb2,An (JZ hy7)]
 refine Ad (fun hv=>?_) fun hv=>?_
 subst hv
 refine Ad (fun hb3=>?_) fun hb3=>?_
 refine Ad (fun hv=>?_) fun hv=>?_
 subst hv
 refine Ah fun x8 hx8=>?_
 refine Ah fun x9 hx9=>?_
 refine Ad (fun hb4=>?_) fun hb4=>?_
 refine Ah fun y10 hy10=>?_
 rintro ⟨⟩
 exact rT (o4++[pb hb3,BT (oN .lost hx8),BT (oN .lost hx9),pb hb4,Fl (.r (.g (.z (.z (.z .nil))) .nil)) (JZ hy10)])
 rintro ⟨⟩
 exact rT (o4++[pb hb3,BT (oN .lost hx8),BT (oN .lost hx9),pb hb4])
 subst hv
 rintro ⟨⟩
 exact rT (o4++[pb hb3])
 refine Ah fun y11 hy11=>?_
 let o5:LP:=o4++[pb hb3,An (QJ hy11)]
 refine Ad (fun hv=>?_) fun hv=>?_
 subst hv
 refine Ah fun y12 hy12=>?_
 let o6:LP:=o5++[An (Q1 hy12)]
 refine Ad (fun hb5=>?_) fun hb5=>?_
 rintro ⟨⟩
 exact rT (o6++[pb hb5])
 refine Ah fun y13 hy13=>?_
 let o7:LP:=o6++[pb hb5,An (Cp hy13)]
 refine Ad (fun hb6=>?_) fun hb6=>?_
 refine Ah fun y14 hy14=>?_
 refine Ad (fun hb7=>?_) fun hb7=>?_
 refine Ah fun y15 hy15=>?_
 refine Ad (fun hb8=>?_) fun hb8=>?_
 refine DF (fun Q v=>EQ P Tryz.f4 0 Q (.zb v)) (fun i0 ((w3_0,w3_1,w3_2):(Int×Int×Int)) (j0:List Value)=>fr 232 [(3,.zb y1),(4,.ptr 1 0),(8,.ptr 3 0),(105,.sl .lost n.kids.length (Cg n.kids)),(106,.zi ((n.kids.length:Nat):Int)),(107,.zi ((i0:Nat):Int))] [2,13,15,16,17,19,20,21,22,25,26,27,43,44,47,48,49,52,53,54,63,64,65,68,69,71,72,73,77,78,79,85,86,87,93,94,95,101,102,108,113,114,126,131,132,146,151,152,167,168,178,179,180,185,186,187,192,193,194,199,200,201,206,207,208,214,215,216,220,223,224,225,231] j0) (fun ((w3_0,w3_1,w3_2):(Int×Int×Int))=>⟨[(3,.cells [.zi w3_0,.zi w3_1,.zi w3_2]),(2,.cells (Wf y6a)),(1,.cells (Wf y4a)),(0,.cells (Bo n))],4,[],0⟩) (fun ((w3_0,w3_1,w3_2):(Int×Int×Int)) (jx:List Value)=>fr 232 [(3,.zb y1)] [2,13,15,16,17,19,20,21,22,25,26,27,43,44,47,48,49,52,53,54,63,64,65,68,69,71,72,73,77,78,79,85,86,87,93,94,95,101,102,108,113,114,126,131,132,146,151,152,167,168,178,179,180,185,186,187,192,193,194,199,200,201,206,207,208,214,215,216,220,223,224,225,231] jx) (fun ((w3_0,w3_1,w3_2):(Int×Int×Int))=>⟨[(3,.cells [.zi w3_0,.zi w3_1,.zi w3_2]),(2,.cells (Wf y6a)),(1,.cells (Wf y4a)),(0,.cells (Bo n))],4,[],0⟩) [bF,.bool y1,bT,bF,bF,bT,bF,bF,bF,bF,bF,undef,bF,bF,bT,bF,bF,bF,undef,undef,undef,undef,undef,undef,undef,bT,bF,bF,bF,bF,bF,bF,bF,bF,bF,bF,bF,bF,bF] (Dq [] 0 (sb B4 16372) [.code (sb B4 2047)] (Ag 300 (o7++[pn hb6,An (Cp hy14),pn hb7,An (Cp hy15),pn hb8])) (by kernel_rfl)) ?_ ?_ ?_ (fun v h=>by cases h;exact .outer .body)
 rintro i0 ⟨w3_0,w3_1,w3_2⟩ j0 hge hq
 exact B1 (Ag 300 [pb (IJ hge)]) (by kernel_rfl) (hq (js 73 j0 [(39,bF)]))
 rintro i0 e0 ⟨w3_0,w3_1,w3_2⟩ j0 r he0 hi0 mi0 k
 show EX  n y4a i0 e0 w3_0 w3_1 w3_2=some r→_
 unfold EX
 let o8:LP:=[pb (Fk hi0),BT (BQ .lost he0)]
 refine Ad (fun hb9=>?_) fun hb9=>?_
 refine Ah fun x16 hx16=>?_
 refine Ad (fun hb10=>?_) fun hb10=>?_
 rintro ⟨⟩
 exact Bt Hd.Aa [fq (Am.Bk n.kids)] [none,bp (Hu.pl y6a),bp (Hu.pl y4a),bp (Am.pl n)] (Ag 300 (o8++[pb hb9,pk,BT (Nh .lost hx16),CD (Uq hb10 (.tmp 120) (.tmp 125)),pk,pk,pk,pi mi0])) (by kernel_rfl) (k (js 73 j0 [(39,bT),(40,bT),(41,bT),(42,bF)]))
 rintro ⟨⟩
 exact Ap _ _ (Ag 300 (o8++[pb hb9,pk,BT (Nh .lost hx16),CD (Uq hb10 (.tmp 120) (.tmp 125))])) (by kernel_rfl) (.Em k) .sc
 let o9:LP:=o8++[pb hb9]
 refine Ad (fun hb11=>?_) fun hb11=>?_
 refine Ah fun x17 hx17=>?_
 refine Ad (fun hb12=>?_) fun hb12=>?_
 rintro ⟨⟩
 exact Bt Hd.Aa [fq (Am.Bk n.kids)] [none,bp (Hu.pl y6a),bp (Hu.pl y4a),bp (Am.pl n)] (Ag 300 (o9++[pb hb11,pk,BT (Nh .lost hx17),CD (Uq hb12 (.tmp 138) (.tmp 145)),pk,pk,pk,pi mi0])) (by kernel_rfl) (k (js 73 j0 [(39,bT),(40,bF),(41,bF),(43,bT),(44,bT),(45,bF)]))
 rintro ⟨⟩
 exact Ap _ _ (Ag 300 (o9++[pb hb11,pk,BT (Nh .lost hx17),CD (Uq hb12 (.tmp 138) (.tmp 145))])) (by kernel_rfl) (.Em k) .sc
 let o10:LP:=o9++[pb hb11]
 refine Ad (fun hb13=>?_) fun hb13=>?_
 refine Ah fun x18 hx18=>?_
 refine Ah fun x19 hx19=>?_
 let o11:LP:=o10++[pb hb13,pk,BT (ace .lost hx18),BT (BQ .lost hx19)]
 refine Ad (fun hb14=>?_) fun hb14=>?_
 refine Ah fun x20 hx20=>?_
 let o12:LP:=o11++[pn hb14,BT (Nh .lost hx20)]
 refine Ad (fun hb15=>?_) fun hb15=>?_
 refine Ad (fun hb16=>?_) fun hb16=>?_
 let o13:LP:=o12++[pn hb15,pn hb16]
 refine Ad (fun hb17=>?_) fun hb17=>?_
 refine Ad (fun hb18=>?_) fun hb18=>?_
 let o14:LP:=o13++[pn hb17,pn hb18]
 refine Ad (fun hb19=>?_) fun hb19=>?_
 refine Ah fun y21 hy21=>?_
 let o15:LP:=o14++[pn hb19,An (Cp hy21)]
 refine Ad (fun hb20=>?_) fun hb20=>?_
 refine Ad (fun hb21=>?_) fun hb21=>?_
 refine Ah fun y22 hy22=>?_
 refine Ad (fun hb22=>?_) fun hb22=>?_
 rintro ⟨⟩
 exact Bt Hd.Aa [fq (Am.Bk n.kids)] [none,bp (Hu.pl y6a),bp (Hu.pl y4a),bp (Am.pl n)] (Ag 300 (o15++[pn hb20,pb hb21,An (Cp hy22),pb hb22,pk,pk,pk,pk,pi mi0])) (by kernel_rfl) (k (js 73 j0 [(39,bT),(40,bF),(41,bF),(43,bF),(44,bF),(46,bT),(47,bT),(48,bF),(49,bF),(50,bF),(51,bF),(52,bF),(53,bF),(54,bF),(55,bF),(56,bF),(57,bF),(58,bF),(59,bF),(60,bF),(61,bF),(62,bF),(63,bF),(64,bF),(65,bF),(66,bF),(67,bF),(68,bT),(69,bT),(70,bF),(71,bF)]))
 rintro ⟨⟩
 exact Ap _ _ (Ag 300 (o15++[pn hb20,pb hb21,An (Cp hy22),pb hb22,pk])) (by kernel_rfl) (.Em k) .sc
 refine Ah fun y23 hy23=>?_
 refine Ad (fun hb23=>?_) fun hb23=>?_
 rintro ⟨⟩
 exact Ap _ _ (Ag 300 (o15++[pn hb20,pb hb21,An (Cp hy23),pb hb23,pk])) (by kernel_rfl) (.Em k) .sc
 rintro ⟨⟩
 exact Bt Hd.Aa [fq (Am.Bk n.kids)] [none,bp (Hu.pl y6a),bp (Hu.pl y4a),bp (Am.pl n)] (Ag 300 (o15++[pn hb20,pb hb21,An (Cp hy23),pb hb23,pk,pk,pk,pk,pi mi0])) (by kernel_rfl) (k (js 73 j0 [(39,bT),(40,bF),(41,bF),(43,bF),(44,bF),(46,bT),(47,bT),(48,bF),(49,bF),(50,bF),(51,bF),(52,bF),(53,bF),(54,bF),(55,bF),(56,bF),(57,bF),(58,bF),(59,bF),(60,bF),(61,bF),(62,bF),(63,bF),(64,bF),(65,bF),(66,bF),(67,bF),(68,bF),(69,bF),(70,bF),(71,bF)]))
 rintro ⟨⟩
 exact Ap _ _ (Ag 300 (o15++[pn hb20])) (by kernel_rfl) (.Em k) .sc
 rintro ⟨⟩
 exact Ap _ _ (Ag 300 (o14++[pn hb19])) (by kernel_rfl) (.Em k) .sc
 rintro ⟨⟩
 exact Ap _ _ (Ag 300 (o13++[pn hb17,pn hb18])) (by kernel_rfl) (.Em k) .sc
 rintro ⟨⟩
 exact Ap _ _ (Ag 300 (o13++[pn hb17])) (by kernel_rfl) (.Em k) .sc
 rintro ⟨⟩
 exact Ap _ _ (Ag 300 (o12++[pn hb15,pn hb16])) (by kernel_rfl) (.Em k) .sc
 rintro ⟨⟩
 exact Ap _ _ (Ag 300 (o12++[pn hb15])) (by kernel_rfl) (.Em k) .sc
 rintro ⟨⟩
 exact Ap _ _ (Ag 300 (o11++[pn hb14])) (by kernel_rfl) (.Em k) .sc
 rintro ⟨⟩
 exact Bt Hd.Aa [fq (Am.Bk n.kids)] [none,bp (Hu.pl y6a),bp (Hu.pl y4a),bp (Am.pl n)] (Ag 300 (o10++[pb hb13,pi mi0])) (by kernel_rfl) (k (js 73 j0 [(39,bT),(40,bF),(41,bF),(43,bF),(44,bF),(46,bF),(47,bF)]))
 rintro ⟨w3_0_24,w3_1_24,w3_2_24⟩ jx_24
 dsimp only
 rintro ⟨⟩
 exact Ap _ _ (BJ 300 []) (by kernel_rfl) .body .sc
 rintro ⟨⟩
 exact rT (o7++[pn hb6,An (Cp hy14),pn hb7,An (Cp hy15),pn hb8])
 rintro ⟨⟩
 exact rT (o7++[pn hb6,An (Cp hy14),pn hb7])
 rintro ⟨⟩
 exact rT (o7++[pn hb6])
 subst hv
 rintro ⟨⟩
 exact rT o5
 subst hv
 rintro ⟨⟩
 exact rT o4
 rintro ⟨⟩
 exact rT (o3++[pn hb2])
 rintro ⟨⟩
 exact rT (o2++[pn hb1])
 subst hv
 rintro ⟨⟩
 exact rT o2
 subst hv
 rintro ⟨⟩
 exact rT o1
end Mo
end Go.Proofs.YtnijkdknnmgoeaaGreat
namespace Go.Proofs.YtnijkdknnmgoeaaGreat
open AI Go
namespace Mo
set_option maxRecDepth 100000
set_option maxHeartbeats 4000000
theorem qM:∀ (q:Nat) (n:Nd),DG n≤q→DG n≤100000→E9 q n=some (Ef n):=by
 intro q
 induction q with
 | zero=>intro n h;have:=B6 n;omega
 | succ q ih =>
   intro n hq hz
   have hsz:=B6 n
   have hl:=FG n.kids
   rw [E9,JO,Ki,K2]
   refine FA (fun i x=>x=(n.kids.take i).map Ef) (by omega) (by simp) (fun i y x hy hI=>?_) (fun x hI=>?_)
   · have hmem:=List.mem_of_getElem? hy
     have hm:=EY hmem
     have hi:=(List.getElem?_eq_some_iff.1 hy).1
     rw [IY,ih y (by omega) (by omega),Option.bind_some,G9 (by rw [hI,List.length_map,List.length_take];omega),Bm,F0,List.take_add_one,hy,hI]
     simp
   · rw [hI,List.take_length,Bm]
theorem oW {n:Nd} (hz:DG n≤100000):LJ n=some (Ef n):=Jw (DG n) fun q hq=>qM q n hq hz
theorem Oi {k:Int} {l:List Nd} {i:Nat} {y:Nd} (h:l[i]?=some y):Bi k (l.take (i+1))=Bi k (l.take i)+(if y.kind=k then 1 else 0):=by
 rw [List.take_add_one,h,Mj]
 simp [Bi]
theorem PG {n:Nd} (hl:n.kids.length≤100000) (k:Int):DL n k=some ((Bi k n.kids:Nat):Int):=by
 rw [DL,K2]
 refine FA (fun i x=>x=((Bi k (n.kids.take i):Nat):Int)) (by omega) (by simp [Bi]) (fun i y x hy hI=>?_) (fun x hI=>?_)
 · have hs:=Oi (k:=k) hy
   have h1:=Jg k (n.kids.take i)
   rw [List.length_take] at h1
   rw [I0,HN]
   by_cases hk:y.kind=k
   · rw [Ac hk,hI,Ce (by omega),Bm,F0,hs,if_pos hk];omega
   · rw [Ab hk,hI,Bm,F0,hs,if_neg hk];omega
 · rw [hI,List.take_length,Bm]
theorem TM {k:Int}:∀ {l:List Nd} {i:Nat} {y:Nd},l[i]?=some y→y.kind=k→(Oz k l)[Bi k (l.take i)]?=some y
 | a::l,0,y,h,hk=>by
   rw [List.getElem?_cons_zero] at h;cases h
   rw [KR hk,List.take_zero,Bi,List.getElem?_cons_zero]
 | a::l,i+1,y,h,hk=>by
   rw [List.getElem?_cons_succ] at h
   rw [List.take_succ_cons,Bi]
   by_cases ha:a.kind=k
   · rw [KR ha,if_pos ha,Nat.add_comm,List.getElem?_cons_succ]
     exact TM h hk
   · rw [Km ha,if_neg ha,Nat.zero_add]
     exact TM h hk
 | [],_,y,h,_=>by simp at h
theorem Mb {α:Type} {l:List α} {i:Nat}:CP l ((i:Nat):Int)=l[i]?:=by
 unfold CP
 rw [if_pos (by omega)];rfl
theorem jH:∀ (m:Nat) (e:Ex),LS e≤m→LS e≤1000000→Qu e→V.lM e:=by
 intro m
 induction m with
 | zero=>intro e h;have:=O2 e;omega
 | succ m ih =>
   intro e hm hz ho
   have h1:=O2 e
   have h2:=SO e.kids
   obtain ⟨o1,o2⟩:=(Zh e).1 ho
   exact (V.Z0 e).2 ⟨by omega,by omega,fun k hk=>by
     have:=TH hk
     exact ih k (by omega) (by omega) (o2 k hk)⟩
theorem qN {c:Co} (h1:c.facts.length≤2000) (h2:c.lines.length≤2000) (h3:c.arts.length≤2000) (h4:∀ a∈c.arts,dU a):V.jT c:=by
 refine ⟨by omega,by omega,by omega,fun a ha=>?_⟩
 obtain ⟨a1,a2,a3,a4,a5⟩:=h4 a ha
 exact ⟨by omega,by omega,fun e he=>jH (LS e) e (Nat.le_refl _) (a3 e he).1 (a3 e he).2,jH (LS a.am) _ (Nat.le_refl _) a4 a5⟩
theorem kW:Db (⟨[],[],[]⟩:Co) (⟨[],[],[]⟩:Co)=some true:=TK (by simp) (by simp) (by simp) fun a ha=>by cases ha
theorem Zc {n:Nd} (h:(DE n).2≠[]):(DE n).1=⟨[],[],[]⟩:=by
 unfold DE at h ⊢
 by_cases h1:n.kind=1∧Rb n
 · rw [Ac h1] at h ⊢
   by_cases h2:G2 n=[]
   · rw [Ac h2] at h ⊢
     by_cases h3:(Ls (Fj n.kids) n.kids).1=[]
     · rw [Ac h3] at h;exact absurd rfl h
     · rw [Ab h3]
   · rw [Ab h2]
 · rw [Ab h1]
theorem Yp {n a:Nd} (hn:Chk n) (ha:a∈n.kids) (k4:a.kind=4):∃ h,a.kids[0]?=some h∧a.kids.headD a=h∧(Pr (Fj n.kids) a).wh.length=Bi 6 a.kids∧(0 < (Pr (Fj n.kids) a).un.length↔0 < Bi 7 a.kids):=by
 obtain ⟨hr,hnm,_,h,cs,hkids,hki,h8,_,hh,hcl⟩:=(sF k4).1 (hn.hit a ha)
 have h5:=hh.1
 obtain ⟨g1,g2,g3,g4⟩:=QR (Fj n.kids) a.kids.tail ([],[],[],⟨0,0,ByteArray.empty,⟨0,[]⟩,[]⟩)
 refine ⟨h,by rw [hkids];rfl,by rw [hkids];rfl,?_,?_⟩
 · show (D8 (Fj n.kids) a.kids.tail).2.2.1.length=_
   unfold D8
   rw [g3,List.nil_append,List.length_map,KM,hkids,List.tail_cons,Bi,if_neg (by omega)]
   omega
 · show 0 < (D8 (Fj n.kids) a.kids.tail).2.1.length↔_
   unfold D8
   rw [g2,List.nil_append,hkids,List.tail_cons,Bi,if_neg (by omega),Nat.zero_add,← KM]
   constructor
   · intro hp
     cases hq:Oz 7 cs with
     | nil=>rw [hq] at hp;simp at hp
     | cons x l=>simp
   · intro hp
     obtain ⟨x,hx⟩:=List.exists_mem_of_length_pos hp
     obtain ⟨hxc,x7⟩:=JU.1 hx
     have:=((hcl x hxc).2.1 x7).1
     refine List.length_pos_iff.2 fun hz=>?_
     have h0:=List.flatMap_eq_nil_iff.1 hz x hx
     rw [List.map_eq_nil_iff] at h0
     rw [h0] at this
     simp at this
theorem PS {n:Nd} (hn:FM n):FF n=some true:=by
 rw [FF,show ML=some true from rfl,aak hn,ZH hn]
 simp only [Option.bind_some,BH]
 by_cases t1:((DG n:Nat):Int)≤2100∧((L3 n:Nat):Int)≤100
 rotate_left
 · rw [Ab t1]
 rw [Ac t1]
 by_cases hv:Rb n
 rotate_left
 · rw [Ab hv]
 rw [Ac hv]
 simp only [HN n.kind]
 by_cases hk:n.kind=1
 rotate_left
 · rw [Ab hk]
 rw [Ac hk,U4 hn (by omega),oW (by omega)]
 simp only [Option.bind_some]
 rw [U4 (abN hn) (by rw [(eK n).1];omega),eI]
 simp only [Option.bind_some]
 have hsz:=B6 n
 have hll:=FG n.kids
 rw [HN,Ac (by rw [List.length_map])]
 by_cases hd:(DE n).2=[]
 rotate_left
 · rw [Zc hd,kW]
   simp only [Option.bind_some,cond_true]
   have hlen:=List.length_pos_iff.2 hd
   rw [Xo,Ac (by omega)]
   generalize (DE n).2=d at *
   match d,hlen with
   | g::d,_ =>
     simp only [List.map_cons,List.getElem?_cons_zero,Option.bind_some]
     rw [HN,Ac (show g.err=(Ov g).err from rfl)]
 obtain ⟨s1,_⟩:=Yj hd
 obtain ⟨b1,b2,b3,b4⟩:=UU hd
 have hval:=Xc hd
 obtain ⟨_,_,hc,hb,he⟩:=Su hd
 have hchk:=iB hv hk hc
 rw [s1,V.fM _ (qN b1 b2 b3 b4),pL hn,hc,PG (by omega),PG (by omega),PG (by omega)]
 simp only [Option.bind_some,cond_true,hd,List.length_nil,BH,Xo,HN]
 rw [Ab (by omega),Ac hval,Ab (by omega)]
 have e1:(DE n).1.facts=(Oz 2 n.kids).map yS:=by rw [he];exact RX _
 have e2:(DE n).1.lines=(Oz 3 n.kids).map dcL:=by rw [he];exact RL _
 have e3:(DE n).1.arts=(Oz 4 n.kids).map (Pr (Fj n.kids)):=by rw [he];exact XB _ _
 have hof:Xy n (DE n).1:=⟨by rw [he],by rw [he],e3⟩
 generalize (DE n).1=c at *
 rw [Ac (by rw [e1,List.length_map,KM]),Ac (by rw [e2,List.length_map,KM]),Ac (by rw [e3,List.length_map,KM])]
 rw [K2]
 refine FA (fun i x=>x=(((Bi 2 (n.kids.take i):Nat):Int),((Bi 3 (n.kids.take i):Nat):Int),((Bi 4 (n.kids.take i):Nat):Int))) (by omega) (by simp [Bi]) (fun i y x hy hI=>?_) (fun x hI=>?_)
 · subst hI
   have hmem:=List.mem_of_getElem? hy
   have q2:=Oi (k:=2) hy
   have q3:=Oi (k:=3) hy
   have q4:=Oi (k:=4) hy
   have w2:=Jg 2 (n.kids.take i)
   have w3:=Jg 3 (n.kids.take i)
   have w4:=Jg 4 (n.kids.take i)
   rw [List.length_take] at w2 w3 w4
   simp only
   rw [EX]
   simp only [HN y.kind]
   by_cases k2:y.kind=2
   · rw [Ac k2,Mb,e1,List.getElem?_map,TM hy k2]
     simp only [Option.map_some,Option.bind_some]
     rw [show LI (yS y) ⟨y.name,y.unit,0⟩=true from N0 (yS y),cond_true,Ce (by omega),Bm,F0,q2,q3,q4,if_pos k2,if_neg (by omega),if_neg (by omega)]
     simp
   rw [Ab k2]
   by_cases k3:y.kind=3
   · rw [Ac k3,Mb,e2,List.getElem?_map,TM hy k3]
     simp only [Option.map_some,Option.bind_some]
     rw [show LI (dcL y) ⟨y.name,y.unit,y.n⟩=true from N0 (dcL y),cond_true,Ce (by omega),Bm,F0,q2,q3,q4,if_neg k2,if_pos k3,if_neg (by omega)]
     simp
   rw [Ab k3]
   by_cases k4:y.kind=4
   · rw [Ac k4,Mb,e3,List.getElem?_map,TM hy k4]
     simp only [Option.map_some,Option.bind_some]
     obtain ⟨h,a1,a2,a3,a4⟩:=Yp hchk hmem k4
     obtain ⟨hat,h3n⟩:=hchk.hart y hmem k4
     have hfa:fA n.kids y.n=some y.name:=by
       cases hq:fA n.kids y.n with
       | none=>exact absurd hq (Yu hmem k4 rfl)
       | some w=>rw [hq] at hat;rw [← hat];rfl
     obtain ⟨j,d,l1,l2,l3,l4,l5⟩:=XN hof hchk.one hfa h3n
     have hline:(Pr (Fj n.kids) y).line=j:=by
       show ((Fj n.kids).lines.get y.name).getD 0=j
       rw [l1];rfl
     have hrk:(Pr (Fj n.kids) y).rank=h.n:=by show (y.kids.headD y).n=_;rw [a2]
     have hfr:(Pr (Fj n.kids) y).fr=h.fr:=by show (y.kids.headD y).fr=_;rw [a2]
     have hto:(Pr (Fj n.kids) y).to=h.to:=by show (y.kids.headD y).to=_;rw [a2]
     have hkn:(Pr (Fj n.kids) y).known=h.known:=by show (y.kids.headD y).known=_;rw [a2]
     have hnu:(Pr (Fj n.kids) y).number=y.n:=rfl
     have hyz:=EY hmem
     have hye:=B6 y
     have hyl:=FG y.kids
     generalize Pr (Fj n.kids) y=v at *
     rw [a1,hline,l3,PG (by omega),PG (by omega)]
     simp only [Option.bind_some,HN,Nc,Xo]
     rw [Ac hnu,Ac l4,Ac hrk,Ac hfr,Ac hto,Ac hkn,Ac (by omega)]
     have fin:∀ (Qx:Int×Int×Int→Prop) (Qr:Bool→Prop),Sp (some (Lp.nx (((Bi 2 (n.kids.take i):Nat):Int),((Bi 3 (n.kids.take i):Nat):Int),BW ((Bi 4 (n.kids.take i):Nat):Int) 1)):Option (Lp (Int×Int×Int) (Int×Int×Int) Bool)) (RQ (fun x=>x=(((Bi 2 (n.kids.take (i+1)):Nat):Int),((Bi 3 (n.kids.take (i+1)):Nat):Int),((Bi 4 (n.kids.take (i+1)):Nat):Int))) Qx Qr):=fun Qx Qr=>by
       rw [Ce (by omega),Bm,F0,q2,q3,q4,if_neg k2,if_neg k3,if_pos k4]
       simp
     by_cases hu:(0:Int) < ((v.un.length:Nat):Int)
     · rw [Ac hu,Ac (by have:=a4.1 (by omega);omega)]
       exact fin _ _
     · rw [Ab hu,Ab (fun q=>hu (by have:=a4.2 (by omega);omega))]
       exact fin _ _
   · rw [Ab k4,Bm,F0,q2,q3,q4,if_neg k2,if_neg k3,if_neg k4]
     simp
 · rw [Bm]
end Mo
end Go.Proofs.YtnijkdknnmgoeaaGreat
