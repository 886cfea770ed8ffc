/- slices.Sort at []int, laid by program; no condition. -/
import Derived.Shelf.Slices.In.SortNone
import Derived.Shelf.Sort.Plain
import Derived.Test.YtnfmpddhcjkjbaaGreatDoorProg
set_option maxRecDepth 100000
set_option maxHeartbeats 4000000
namespace Go.Proofs.YtnfmpddhcjkjbaaGreatDoor
open Go Go.Proofs Go.Shelf
def lays189_ren:Go.Shelf.Ren:=⟨fun | 189=>113 | 125=>143 | 257=>142 | 128=>130 | 129=>172 | 294=>163 | 295=>164 | 296=>165 | 297=>166 | 298=>167 | 299=>168 | 216=>169 | 300=>170 | 301=>171 | 328=>180 | 329=>181 | 330=>182 | 331=>183 | 332=>184 | 215=>185 | 343=>192 | n=>n,fun | 28=>39 | 3=>3 | 46=>107 | 0=>0 | 51=>22 | 53=>106 | 4=>4 | 183=>176 | 182=>175 | 131=>84 | 5=>5 | 9=>9 | 218=>189 | 222=>193 | 228=>206 | 229=>207 | n=>n,fun | n=>n⟩
theorem lays189:Go.Proofs.Lays.n189 Tryz.prog lays189_ren:={
 mixed:=by kernel_rfl
 f125:=Tryz.func143.trans (congrArg some (by kernel_rfl))
 f128:=Tryz.func130.trans (congrArg some (by kernel_rfl))
 f129:=Tryz.func172.trans (congrArg some (by kernel_rfl))
 f189:=Tryz.func113.trans (congrArg some (by kernel_rfl))
 f215:=Tryz.func185.trans (congrArg some (by kernel_rfl))
 f216:=Tryz.func169.trans (congrArg some (by kernel_rfl))
 f257:=Tryz.func142.trans (congrArg some (by kernel_rfl))
 f294:=Tryz.func163.trans (congrArg some (by kernel_rfl))
 f295:=Tryz.func164.trans (congrArg some (by kernel_rfl))
 f296:=Tryz.func165.trans (congrArg some (by kernel_rfl))
 f297:=Tryz.func166.trans (congrArg some (by kernel_rfl))
 f298:=Tryz.func167.trans (congrArg some (by kernel_rfl))
 f299:=Tryz.func168.trans (congrArg some (by kernel_rfl))
 f300:=Tryz.func170.trans (congrArg some (by kernel_rfl))
 f301:=Tryz.func171.trans (congrArg some (by kernel_rfl))
 f328:=Tryz.func180.trans (congrArg some (by kernel_rfl))
 f329:=Tryz.func181.trans (congrArg some (by kernel_rfl))
 f330:=Tryz.func182.trans (congrArg some (by kernel_rfl))
 f331:=Tryz.func183.trans (congrArg some (by kernel_rfl))
 f332:=Tryz.func184.trans (congrArg some (by kernel_rfl))
 f343:=Tryz.func192.trans (congrArg some (by kernel_rfl))
 t0:=Tryz.underlying0
 a0:=Tryz.isAgg0
 z0:=Tryz.sizeOf0
 v0:=Tryz.zeroValue0
 t3:=Tryz.underlying3
 a3:=Tryz.isAgg3
 z3:=Tryz.sizeOf3
 v3:=Tryz.zeroValue3
 t4:=Tryz.underlying4
 a4:=Tryz.isAgg4
 z4:=Tryz.sizeOf4
 v4:=Tryz.zeroValue4
 t5:=Tryz.underlying5
 a5:=Tryz.isAgg5
 z5:=Tryz.sizeOf5
 v5:=Tryz.zeroValue5
 t9:=Tryz.underlying9
 a9:=Tryz.isAgg9
 z9:=Tryz.sizeOf9
 v9:=Tryz.zeroValue9
 t28:=Tryz.underlying39
 a28:=Tryz.isAgg39
 z28:=Tryz.sizeOf39
 v28:=Tryz.zeroValue39
 t46:=Tryz.underlying107
 a46:=Tryz.isAgg107
 z46:=Tryz.sizeOf107
 v46:=Tryz.zeroValue107
 t51:=Tryz.underlying22
 a51:=Tryz.isAgg22
 z51:=Tryz.sizeOf22
 v51:=Tryz.zeroValue22
 t53:=Tryz.underlying106
 a53:=Tryz.isAgg106
 z53:=Tryz.sizeOf106
 v53:=Tryz.zeroValue106
 t131:=Tryz.underlying84
 a131:=Tryz.isAgg84
 z131:=Tryz.sizeOf84
 v131:=Tryz.zeroValue84
 t182:=Tryz.underlying175
 a182:=Tryz.isAgg175
 z182:=Tryz.sizeOf175
 v182:=Tryz.zeroValue175
 t183:=Tryz.underlying176
 a183:=Tryz.isAgg176
 z183:=Tryz.sizeOf176
 v183:=Tryz.zeroValue176
 t218:=Tryz.underlying189
 a218:=Tryz.isAgg189
 z218:=Tryz.sizeOf189
 v218:=Tryz.zeroValue189
 t222:=Tryz.underlying193
 a222:=Tryz.isAgg193
 z222:=Tryz.sizeOf193
 v222:=Tryz.zeroValue193
 t228:=Tryz.underlying206
 a228:=Tryz.isAgg206
 z228:=Tryz.sizeOf206
 v228:=Tryz.zeroValue206
 t229:=Tryz.underlying207
 a229:=Tryz.isAgg207
 z229:=Tryz.sizeOf207
 v229:=Tryz.zeroValue207 }
end Go.Proofs.YtnfmpddhcjkjbaaGreatDoor
