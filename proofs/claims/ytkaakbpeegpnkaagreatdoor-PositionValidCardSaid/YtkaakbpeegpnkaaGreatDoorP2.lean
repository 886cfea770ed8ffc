/- slices.Sort at []int, laid by program; no condition. -/
import Derived.Shelf.Slices.In.SortNone
import Derived.Shelf.Sort.Plain
import Derived.Test.YtkaakbpeegpnkaaGreatDoorProg
set_option maxRecDepth 100000
set_option maxHeartbeats 4000000
namespace Go.Proofs.YtkaakbpeegpnkaaGreatDoor
open Go Go.Proofs Go.Shelf
def lays189_ren:Go.Shelf.Ren:=⟨fun | 189=>54 | 125=>85 | 257=>84 | 128=>123 | 129=>124 | 294=>114 | 295=>115 | 296=>116 | 297=>117 | 298=>118 | 299=>119 | 216=>120 | 300=>121 | 301=>122 | 328=>167 | 329=>168 | 330=>169 | 331=>170 | 332=>171 | 215=>92 | 343=>207 | n=>n,fun | 28=>41 | 3=>3 | 46=>136 | 0=>0 | 51=>54 | 53=>183 | 4=>4 | 183=>175 | 182=>174 | 131=>144 | 5=>5 | 9=>9 | 218=>213 | 222=>217 | 228=>245 | 229=>246 | n=>n,fun | n=>n⟩
theorem lays189:Go.Proofs.Lays.n189 Tryz.prog lays189_ren:={
 mixed:=by kernel_rfl
 f125:=Tryz.func85.trans (congrArg some (by kernel_rfl))
 f128:=Tryz.func123.trans (congrArg some (by kernel_rfl))
 f129:=Tryz.func124.trans (congrArg some (by kernel_rfl))
 f189:=Tryz.func54.trans (congrArg some (by kernel_rfl))
 f215:=Tryz.func92.trans (congrArg some (by kernel_rfl))
 f216:=Tryz.func120.trans (congrArg some (by kernel_rfl))
 f257:=Tryz.func84.trans (congrArg some (by kernel_rfl))
 f294:=Tryz.func114.trans (congrArg some (by kernel_rfl))
 f295:=Tryz.func115.trans (congrArg some (by kernel_rfl))
 f296:=Tryz.func116.trans (congrArg some (by kernel_rfl))
 f297:=Tryz.func117.trans (congrArg some (by kernel_rfl))
 f298:=Tryz.func118.trans (congrArg some (by kernel_rfl))
 f299:=Tryz.func119.trans (congrArg some (by kernel_rfl))
 f300:=Tryz.func121.trans (congrArg some (by kernel_rfl))
 f301:=Tryz.func122.trans (congrArg some (by kernel_rfl))
 f328:=Tryz.func167.trans (congrArg some (by kernel_rfl))
 f329:=Tryz.func168.trans (congrArg some (by kernel_rfl))
 f330:=Tryz.func169.trans (congrArg some (by kernel_rfl))
 f331:=Tryz.func170.trans (congrArg some (by kernel_rfl))
 f332:=Tryz.func171.trans (congrArg some (by kernel_rfl))
 f343:=Tryz.func207.trans (congrArg some (by kernel_rfl))
 t0:=Tryz.underlying0
 a0:=Tryz.isAgg0
 z0:=Tryz.sizeOf0
 v0:=Tryz.zeroValue0
 t3:=Tryz.underlying3
 a3:=Tryz.isAgg3
 z3:=Tryz.sizeOf3
 v3:=Tryz.zeroValue3
 t4:=Tryz.underlying4
 a4:=Tryz.isAgg4
 z4:=Tryz.sizeOf4
 v4:=Tryz.zeroValue4
 t5:=Tryz.underlying5
 a5:=Tryz.isAgg5
 z5:=Tryz.sizeOf5
 v5:=Tryz.zeroValue5
 t9:=Tryz.underlying9
 a9:=Tryz.isAgg9
 z9:=Tryz.sizeOf9
 v9:=Tryz.zeroValue9
 t28:=Tryz.underlying41
 a28:=Tryz.isAgg41
 z28:=Tryz.sizeOf41
 v28:=Tryz.zeroValue41
 t46:=Tryz.underlying136
 a46:=Tryz.isAgg136
 z46:=Tryz.sizeOf136
 v46:=Tryz.zeroValue136
 t51:=Tryz.underlying54
 a51:=Tryz.isAgg54
 z51:=Tryz.sizeOf54
 v51:=Tryz.zeroValue54
 t53:=Tryz.underlying183
 a53:=Tryz.isAgg183
 z53:=Tryz.sizeOf183
 v53:=Tryz.zeroValue183
 t131:=Tryz.underlying144
 a131:=Tryz.isAgg144
 z131:=Tryz.sizeOf144
 v131:=Tryz.zeroValue144
 t182:=Tryz.underlying174
 a182:=Tryz.isAgg174
 z182:=Tryz.sizeOf174
 v182:=Tryz.zeroValue174
 t183:=Tryz.underlying175
 a183:=Tryz.isAgg175
 z183:=Tryz.sizeOf175
 v183:=Tryz.zeroValue175
 t218:=Tryz.underlying213
 a218:=Tryz.isAgg213
 z218:=Tryz.sizeOf213
 v218:=Tryz.zeroValue213
 t222:=Tryz.underlying217
 a222:=Tryz.isAgg217
 z222:=Tryz.sizeOf217
 v222:=Tryz.zeroValue217
 t228:=Tryz.underlying245
 a228:=Tryz.isAgg245
 z228:=Tryz.sizeOf245
 v228:=Tryz.zeroValue245
 t229:=Tryz.underlying246
 a229:=Tryz.isAgg246
 z229:=Tryz.sizeOf246
 v229:=Tryz.zeroValue246 }
end Go.Proofs.YtkaakbpeegpnkaaGreatDoor
