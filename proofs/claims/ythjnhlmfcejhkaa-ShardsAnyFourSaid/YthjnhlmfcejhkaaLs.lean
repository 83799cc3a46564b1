/- A part of the proof. Conditions: as each theorem says. -/
import Derived.Test.YthjnhlmfcejhkaaProg
import Derived.Shelf.Sort.Plain
import Derived.KernelRfl
namespace Go.Proofs.Ythjnhlmfcejhkaa
open Go Go.Shelf
set_option maxRecDepth 100000
def sortRen : Go.Shelf.Ren := ⟨fun | 189 => 43 | 125 => 64 | 257 => 63 | 128 => 85 | 129 => 86 | 294 => 76 | 295 => 77 | 296 => 78 | 297 => 79 | 298 => 80 | 299 => 81 | 216 => 82 | 300 => 83 | 301 => 84 | 328 => 89 | 329 => 90 | 330 => 91 | 331 => 92 | 332 => 93 | 215 => 94 | 343 => 95 | n => n, fun | 28 => 38 | 3 => 3 | 46 => 37 | 0 => 0 | 51 => 23 | 53 => 46 | 4 => 4 | 183 => 135 | 182 => 134 | 131 => 140 | 5 => 5 | 9 => 9 | 218 => 146 | 222 => 150 | 228 => 152 | 229 => 153 | n => n, fun | n => n⟩
theorem sortLays : Lays.n189 Try.prog sortRen where
 mixed := by kernel_rfl
 f125 := Try.func64.trans (congrArg some (by kernel_rfl))
 f128 := Try.func85.trans (congrArg some (by kernel_rfl))
 f129 := Try.func86.trans (congrArg some (by kernel_rfl))
 f189 := Try.func43.trans (congrArg some (by kernel_rfl))
 f215 := Try.func94.trans (congrArg some (by kernel_rfl))
 f216 := Try.func82.trans (congrArg some (by kernel_rfl))
 f257 := Try.func63.trans (congrArg some (by kernel_rfl))
 f294 := Try.func76.trans (congrArg some (by kernel_rfl))
 f295 := Try.func77.trans (congrArg some (by kernel_rfl))
 f296 := Try.func78.trans (congrArg some (by kernel_rfl))
 f297 := Try.func79.trans (congrArg some (by kernel_rfl))
 f298 := Try.func80.trans (congrArg some (by kernel_rfl))
 f299 := Try.func81.trans (congrArg some (by kernel_rfl))
 f300 := Try.func83.trans (congrArg some (by kernel_rfl))
 f301 := Try.func84.trans (congrArg some (by kernel_rfl))
 f328 := Try.func89.trans (congrArg some (by kernel_rfl))
 f329 := Try.func90.trans (congrArg some (by kernel_rfl))
 f330 := Try.func91.trans (congrArg some (by kernel_rfl))
 f331 := Try.func92.trans (congrArg some (by kernel_rfl))
 f332 := Try.func93.trans (congrArg some (by kernel_rfl))
 f343 := Try.func95.trans (congrArg some (by kernel_rfl))
 t0 := Try.underlying0
 a0 := Try.isAgg0
 z0 := Try.sizeOf0
 v0 := Try.zeroValue0
 t3 := Try.underlying3
 a3 := Try.isAgg3
 z3 := Try.sizeOf3
 v3 := Try.zeroValue3
 t4 := Try.underlying4
 a4 := Try.isAgg4
 z4 := Try.sizeOf4
 v4 := Try.zeroValue4
 t5 := Try.underlying5
 a5 := Try.isAgg5
 z5 := Try.sizeOf5
 v5 := Try.zeroValue5
 t9 := Try.underlying9
 a9 := Try.isAgg9
 z9 := Try.sizeOf9
 v9 := Try.zeroValue9
 t28 := Try.underlying38
 a28 := Try.isAgg38
 z28 := Try.sizeOf38
 v28 := Try.zeroValue38
 t46 := Try.underlying37
 a46 := Try.isAgg37
 z46 := Try.sizeOf37
 v46 := Try.zeroValue37
 t51 := Try.underlying23
 a51 := Try.isAgg23
 z51 := Try.sizeOf23
 v51 := Try.zeroValue23
 t53 := Try.underlying46
 a53 := Try.isAgg46
 z53 := Try.sizeOf46
 v53 := Try.zeroValue46
 t131 := Try.underlying140
 a131 := Try.isAgg140
 z131 := Try.sizeOf140
 v131 := Try.zeroValue140
 t182 := Try.underlying134
 a182 := Try.isAgg134
 z182 := Try.sizeOf134
 v182 := Try.zeroValue134
 t183 := Try.underlying135
 a183 := Try.isAgg135
 z183 := Try.sizeOf135
 v183 := Try.zeroValue135
 t218 := Try.underlying146
 a218 := Try.isAgg146
 z218 := Try.sizeOf146
 v218 := Try.zeroValue146
 t222 := Try.underlying150
 a222 := Try.isAgg150
 z222 := Try.sizeOf150
 v222 := Try.zeroValue150
 t228 := Try.underlying152
 a228 := Try.isAgg152
 z228 := Try.sizeOf152
 v228 := Try.zeroValue152
 t229 := Try.underlying153
 a229 := Try.isAgg153
 z229 := Try.sizeOf153
 v229 := Try.zeroValue153
end Go.Proofs.Ythjnhlmfcejhkaa
