/- slices.Sort at []int, laid by program; no condition. -/
import Derived.Shelf.Slices.In.SortNone
import Derived.Shelf.Sort.Plain
import Derived.Test.YtjkgmglmgndaoaaGreatDoorProg
set_option maxRecDepth 100000
set_option maxHeartbeats 4000000
namespace Go.Proofs.YtjkgmglmgndaoaaGreatDoor
open Go Go.Proofs Go.Shelf
def lays189_ren:Go.Shelf.Ren:=⟨fun | 189=>168 | 125=>211 | 257=>210 | 128=>191 | 129=>236 | 294=>227 | 295=>228 | 296=>229 | 297=>230 | 298=>231 | 299=>232 | 216=>233 | 300=>234 | 301=>235 | 328=>254 | 329=>255 | 330=>256 | 331=>257 | 332=>258 | 215=>259 | 343=>268 | n=>n,fun | 28=>39 | 3=>3 | 46=>118 | 0=>0 | 51=>24 | 53=>120 | 4=>4 | 183=>217 | 182=>216 | 131=>115 | 5=>5 | 9=>9 | 218=>239 | 222=>243 | 228=>250 | 229=>251 | n=>n,fun | n=>n⟩
theorem lays189:Go.Proofs.Lays.n189 Tryz.prog lays189_ren:={
 mixed:=by kernel_rfl
 f125:=Tryz.func211.trans (congrArg some (by kernel_rfl))
 f128:=Tryz.func191.trans (congrArg some (by kernel_rfl))
 f129:=Tryz.func236.trans (congrArg some (by kernel_rfl))
 f189:=Tryz.func168.trans (congrArg some (by kernel_rfl))
 f215:=Tryz.func259.trans (congrArg some (by kernel_rfl))
 f216:=Tryz.func233.trans (congrArg some (by kernel_rfl))
 f257:=Tryz.func210.trans (congrArg some (by kernel_rfl))
 f294:=Tryz.func227.trans (congrArg some (by kernel_rfl))
 f295:=Tryz.func228.trans (congrArg some (by kernel_rfl))
 f296:=Tryz.func229.trans (congrArg some (by kernel_rfl))
 f297:=Tryz.func230.trans (congrArg some (by kernel_rfl))
 f298:=Tryz.func231.trans (congrArg some (by kernel_rfl))
 f299:=Tryz.func232.trans (congrArg some (by kernel_rfl))
 f300:=Tryz.func234.trans (congrArg some (by kernel_rfl))
 f301:=Tryz.func235.trans (congrArg some (by kernel_rfl))
 f328:=Tryz.func254.trans (congrArg some (by kernel_rfl))
 f329:=Tryz.func255.trans (congrArg some (by kernel_rfl))
 f330:=Tryz.func256.trans (congrArg some (by kernel_rfl))
 f331:=Tryz.func257.trans (congrArg some (by kernel_rfl))
 f332:=Tryz.func258.trans (congrArg some (by kernel_rfl))
 f343:=Tryz.func268.trans (congrArg some (by kernel_rfl))
 t0:=Tryz.underlying0
 a0:=Tryz.isAgg0
 z0:=Tryz.sizeOf0
 v0:=Tryz.zeroValue0
 t3:=Tryz.underlying3
 a3:=Tryz.isAgg3
 z3:=Tryz.sizeOf3
 v3:=Tryz.zeroValue3
 t4:=Tryz.underlying4
 a4:=Tryz.isAgg4
 z4:=Tryz.sizeOf4
 v4:=Tryz.zeroValue4
 t5:=Tryz.underlying5
 a5:=Tryz.isAgg5
 z5:=Tryz.sizeOf5
 v5:=Tryz.zeroValue5
 t9:=Tryz.underlying9
 a9:=Tryz.isAgg9
 z9:=Tryz.sizeOf9
 v9:=Tryz.zeroValue9
 t28:=Tryz.underlying39
 a28:=Tryz.isAgg39
 z28:=Tryz.sizeOf39
 v28:=Tryz.zeroValue39
 t46:=Tryz.underlying118
 a46:=Tryz.isAgg118
 z46:=Tryz.sizeOf118
 v46:=Tryz.zeroValue118
 t51:=Tryz.underlying24
 a51:=Tryz.isAgg24
 z51:=Tryz.sizeOf24
 v51:=Tryz.zeroValue24
 t53:=Tryz.underlying120
 a53:=Tryz.isAgg120
 z53:=Tryz.sizeOf120
 v53:=Tryz.zeroValue120
 t131:=Tryz.underlying115
 a131:=Tryz.isAgg115
 z131:=Tryz.sizeOf115
 v131:=Tryz.zeroValue115
 t182:=Tryz.underlying216
 a182:=Tryz.isAgg216
 z182:=Tryz.sizeOf216
 v182:=Tryz.zeroValue216
 t183:=Tryz.underlying217
 a183:=Tryz.isAgg217
 z183:=Tryz.sizeOf217
 v183:=Tryz.zeroValue217
 t218:=Tryz.underlying239
 a218:=Tryz.isAgg239
 z218:=Tryz.sizeOf239
 v218:=Tryz.zeroValue239
 t222:=Tryz.underlying243
 a222:=Tryz.isAgg243
 z222:=Tryz.sizeOf243
 v222:=Tryz.zeroValue243
 t228:=Tryz.underlying250
 a228:=Tryz.isAgg250
 z228:=Tryz.sizeOf250
 v228:=Tryz.zeroValue250
 t229:=Tryz.underlying251
 a229:=Tryz.isAgg251
 z229:=Tryz.sizeOf251
 v229:=Tryz.zeroValue251 }
end Go.Proofs.YtjkgmglmgndaoaaGreatDoor
