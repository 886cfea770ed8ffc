/- slices.Sort at []int, laid by program; no condition. -/
import Derived.Shelf.Slices.In.SortNone
import Derived.Shelf.Sort.Plain
import Derived.Test.YtofllflnmmjijaaGreatDoorProg
set_option maxRecDepth 100000
set_option maxHeartbeats 4000000
namespace Go.Proofs.YtofllflnmmjijaaGreatDoor
open Go Go.Proofs Go.Shelf
def lays189_ren:Go.Shelf.Ren:=⟨fun | 189=>281 | 125=>287 | 257=>286 | 128=>202 | 129=>299 | 294=>290 | 295=>291 | 296=>292 | 297=>293 | 298=>294 | 299=>295 | 216=>296 | 300=>297 | 301=>298 | 328=>301 | 329=>302 | 330=>303 | 331=>304 | 332=>305 | 215=>173 | 343=>306 | n=>n,fun | 28=>210 | 3=>3 | 46=>148 | 0=>0 | 51=>28 | 53=>146 | 4=>4 | 183=>306 | 182=>305 | 131=>151 | 5=>5 | 9=>9 | 218=>313 | 222=>317 | 228=>319 | 229=>320 | n=>n,fun | n=>n⟩
theorem lays189:Go.Proofs.Lays.n189 Tryz.prog lays189_ren:={
 mixed:=by kernel_rfl
 f125:=Tryz.func287.trans (congrArg some (by kernel_rfl))
 f128:=Tryz.func202.trans (congrArg some (by kernel_rfl))
 f129:=Tryz.func299.trans (congrArg some (by kernel_rfl))
 f189:=Tryz.func281.trans (congrArg some (by kernel_rfl))
 f215:=Tryz.func173.trans (congrArg some (by kernel_rfl))
 f216:=Tryz.func296.trans (congrArg some (by kernel_rfl))
 f257:=Tryz.func286.trans (congrArg some (by kernel_rfl))
 f294:=Tryz.func290.trans (congrArg some (by kernel_rfl))
 f295:=Tryz.func291.trans (congrArg some (by kernel_rfl))
 f296:=Tryz.func292.trans (congrArg some (by kernel_rfl))
 f297:=Tryz.func293.trans (congrArg some (by kernel_rfl))
 f298:=Tryz.func294.trans (congrArg some (by kernel_rfl))
 f299:=Tryz.func295.trans (congrArg some (by kernel_rfl))
 f300:=Tryz.func297.trans (congrArg some (by kernel_rfl))
 f301:=Tryz.func298.trans (congrArg some (by kernel_rfl))
 f328:=Tryz.func301.trans (congrArg some (by kernel_rfl))
 f329:=Tryz.func302.trans (congrArg some (by kernel_rfl))
 f330:=Tryz.func303.trans (congrArg some (by kernel_rfl))
 f331:=Tryz.func304.trans (congrArg some (by kernel_rfl))
 f332:=Tryz.func305.trans (congrArg some (by kernel_rfl))
 f343:=Tryz.func306.trans (congrArg some (by kernel_rfl))
 t0:=Tryz.underlying0
 a0:=Tryz.isAgg0
 z0:=Tryz.sizeOf0
 v0:=Tryz.zeroValue0
 t3:=Tryz.underlying3
 a3:=Tryz.isAgg3
 z3:=Tryz.sizeOf3
 v3:=Tryz.zeroValue3
 t4:=Tryz.underlying4
 a4:=Tryz.isAgg4
 z4:=Tryz.sizeOf4
 v4:=Tryz.zeroValue4
 t5:=Tryz.underlying5
 a5:=Tryz.isAgg5
 z5:=Tryz.sizeOf5
 v5:=Tryz.zeroValue5
 t9:=Tryz.underlying9
 a9:=Tryz.isAgg9
 z9:=Tryz.sizeOf9
 v9:=Tryz.zeroValue9
 t28:=Tryz.underlying210
 a28:=Tryz.isAgg210
 z28:=Tryz.sizeOf210
 v28:=Tryz.zeroValue210
 t46:=Tryz.underlying148
 a46:=Tryz.isAgg148
 z46:=Tryz.sizeOf148
 v46:=Tryz.zeroValue148
 t51:=Tryz.underlying28
 a51:=Tryz.isAgg28
 z51:=Tryz.sizeOf28
 v51:=Tryz.zeroValue28
 t53:=Tryz.underlying146
 a53:=Tryz.isAgg146
 z53:=Tryz.sizeOf146
 v53:=Tryz.zeroValue146
 t131:=Tryz.underlying151
 a131:=Tryz.isAgg151
 z131:=Tryz.sizeOf151
 v131:=Tryz.zeroValue151
 t182:=Tryz.underlying305
 a182:=Tryz.isAgg305
 z182:=Tryz.sizeOf305
 v182:=Tryz.zeroValue305
 t183:=Tryz.underlying306
 a183:=Tryz.isAgg306
 z183:=Tryz.sizeOf306
 v183:=Tryz.zeroValue306
 t218:=Tryz.underlying313
 a218:=Tryz.isAgg313
 z218:=Tryz.sizeOf313
 v218:=Tryz.zeroValue313
 t222:=Tryz.underlying317
 a222:=Tryz.isAgg317
 z222:=Tryz.sizeOf317
 v222:=Tryz.zeroValue317
 t228:=Tryz.underlying319
 a228:=Tryz.isAgg319
 z228:=Tryz.sizeOf319
 v228:=Tryz.zeroValue319
 t229:=Tryz.underlying320
 a229:=Tryz.isAgg320
 z229:=Tryz.sizeOf320
 v229:=Tryz.zeroValue320 }
end Go.Proofs.YtofllflnmmjijaaGreatDoor
