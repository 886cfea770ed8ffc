/- slices.Sort at []int, laid by program; no condition. -/
import Derived.Shelf.Slices.In.SortNone
import Derived.Shelf.Sort.Plain
import Derived.Test.YtklehfchdoikeaaGreatDoorProg
set_option maxRecDepth 100000
set_option maxHeartbeats 4000000
namespace Go.Proofs.YtklehfchdoikeaaGreatDoor
open Go Go.Proofs Go.Shelf
def yb:Go.Shelf.Ren:=⟨fun | 189=>250 | 125=>288 | 257=>287 | 128=>269 | 129=>317 | 294=>308 | 295=>309 | 296=>310 | 297=>311 | 298=>312 | 299=>313 | 216=>314 | 300=>315 | 301=>316 | 328=>328 | 329=>329 | 330=>330 | 331=>331 | 332=>332 | 215=>228 | 343=>340 | n=>n,fun | 28=>50 | 3=>3 | 46=>186 | 0=>0 | 51=>28 | 53=>188 | 4=>4 | 183=>312 | 182=>311 | 131=>203 | 5=>5 | 9=>9 | 218=>324 | 222=>328 | 228=>335 | 229=>336 | n=>n,fun | n=>n⟩
theorem Ch:Go.Proofs.Lays.n189 Tryz.prog yb:={
 mixed:=by kernel_rfl
 f125:=Tryz.func288.trans (congrArg some (by kernel_rfl))
 f128:=Tryz.func269.trans (congrArg some (by kernel_rfl))
 f129:=Tryz.func317.trans (congrArg some (by kernel_rfl))
 f189:=Tryz.func250.trans (congrArg some (by kernel_rfl))
 f215:=Tryz.func228.trans (congrArg some (by kernel_rfl))
 f216:=Tryz.func314.trans (congrArg some (by kernel_rfl))
 f257:=Tryz.func287.trans (congrArg some (by kernel_rfl))
 f294:=Tryz.func308.trans (congrArg some (by kernel_rfl))
 f295:=Tryz.func309.trans (congrArg some (by kernel_rfl))
 f296:=Tryz.func310.trans (congrArg some (by kernel_rfl))
 f297:=Tryz.func311.trans (congrArg some (by kernel_rfl))
 f298:=Tryz.func312.trans (congrArg some (by kernel_rfl))
 f299:=Tryz.func313.trans (congrArg some (by kernel_rfl))
 f300:=Tryz.func315.trans (congrArg some (by kernel_rfl))
 f301:=Tryz.func316.trans (congrArg some (by kernel_rfl))
 f328:=Tryz.func328.trans (congrArg some (by kernel_rfl))
 f329:=Tryz.func329.trans (congrArg some (by kernel_rfl))
 f330:=Tryz.func330.trans (congrArg some (by kernel_rfl))
 f331:=Tryz.func331.trans (congrArg some (by kernel_rfl))
 f332:=Tryz.func332.trans (congrArg some (by kernel_rfl))
 f343:=Tryz.func340.trans (congrArg some (by kernel_rfl))
 t0:=Tryz.underlying0
 a0:=Tryz.isAgg0
 z0:=Tryz.sizeOf0
 v0:=Tryz.zeroValue0
 t3:=Tryz.underlying3
 a3:=Tryz.isAgg3
 z3:=Tryz.sizeOf3
 v3:=Tryz.zeroValue3
 t4:=Tryz.underlying4
 a4:=Tryz.isAgg4
 z4:=Tryz.sizeOf4
 v4:=Tryz.zeroValue4
 t5:=Tryz.underlying5
 a5:=Tryz.isAgg5
 z5:=Tryz.sizeOf5
 v5:=Tryz.zeroValue5
 t9:=Tryz.underlying9
 a9:=Tryz.isAgg9
 z9:=Tryz.sizeOf9
 v9:=Tryz.zeroValue9
 t28:=Tryz.underlying50
 a28:=Tryz.isAgg50
 z28:=Tryz.sizeOf50
 v28:=Tryz.zeroValue50
 t46:=Tryz.underlying186
 a46:=Tryz.isAgg186
 z46:=Tryz.sizeOf186
 v46:=Tryz.zeroValue186
 t51:=Tryz.underlying28
 a51:=Tryz.isAgg28
 z51:=Tryz.sizeOf28
 v51:=Tryz.zeroValue28
 t53:=Tryz.underlying188
 a53:=Tryz.isAgg188
 z53:=Tryz.sizeOf188
 v53:=Tryz.zeroValue188
 t131:=Tryz.underlying203
 a131:=Tryz.isAgg203
 z131:=Tryz.sizeOf203
 v131:=Tryz.zeroValue203
 t182:=Tryz.underlying311
 a182:=Tryz.isAgg311
 z182:=Tryz.sizeOf311
 v182:=Tryz.zeroValue311
 t183:=Tryz.underlying312
 a183:=Tryz.isAgg312
 z183:=Tryz.sizeOf312
 v183:=Tryz.zeroValue312
 t218:=Tryz.underlying324
 a218:=Tryz.isAgg324
 z218:=Tryz.sizeOf324
 v218:=Tryz.zeroValue324
 t222:=Tryz.underlying328
 a222:=Tryz.isAgg328
 z222:=Tryz.sizeOf328
 v222:=Tryz.zeroValue328
 t228:=Tryz.underlying335
 a228:=Tryz.isAgg335
 z228:=Tryz.sizeOf335
 v228:=Tryz.zeroValue335
 t229:=Tryz.underlying336
 a229:=Tryz.isAgg336
 z229:=Tryz.sizeOf336
 v229:=Tryz.zeroValue336 }
end Go.Proofs.YtklehfchdoikeaaGreatDoor
