/- Fn Pieces: what strconv.Itoa returns: the library's contract, laid at this program by its tool. -/
import Derived.Test.YtjgimhdmpcincaaGreatDoorEI
import Derived.Test.YtjgimhdmpcincaaGreatDoorProg
import Derived.Test.YtjgimhdmpcincaaGreatDoorFnPiecesT
set_option linter.unusedVariables false
set_option linter.unusedSimpArgs false
namespace Go.Proofs.YtjgimhdmpcincaaGreatDoor
open Go.RowKit Go.X
open Go.Shelf
def KQ:Go.Shelf.Ren:=⟨fun | 171=>141 | 243=>157 | 246=>174 | 283=>184 | 284=>185 | 285=>186 | 286=>187 | 129=>196 | 317=>195 | 318=>197 | 319=>198 | 320=>199 | 337=>203 | 338=>204 | n=>n,fun | 3=>3 | 9=>9 | 2=>2 | 4=>4 | 171=>190 | 0=>0 | 53=>47 | 37=>22 | 5=>5 | 173=>193 | 212=>210 | 51=>196 | 20=>20 | 213=>211 | 46=>112 | 232=>223 | 233=>224 | n=>n,fun | 17=>3 | 18=>6 | 19=>7 | n=>n⟩
theorem vZ:Go.Proofs.Lays.n171 Tryz.prog KQ:={
 mixed:=by kernel_rfl
 f129:=Tryz.func196.trans (congrArg some (by kernel_rfl))
 f171:=Tryz.func141.trans (congrArg some (by kernel_rfl))
 f243:=Tryz.func157.trans (congrArg some (by kernel_rfl))
 f246:=Tryz.func174.trans (congrArg some (by kernel_rfl))
 f283:=Tryz.func184.trans (congrArg some (by kernel_rfl))
 f284:=Tryz.func185.trans (congrArg some (by kernel_rfl))
 f285:=Tryz.func186.trans (congrArg some (by kernel_rfl))
 f286:=Tryz.func187.trans (congrArg some (by kernel_rfl))
 f317:=Tryz.func195.trans (congrArg some (by kernel_rfl))
 f318:=Tryz.func197.trans (congrArg some (by kernel_rfl))
 f319:=Tryz.func198.trans (congrArg some (by kernel_rfl))
 f320:=Tryz.func199.trans (congrArg some (by kernel_rfl))
 f337:=Tryz.func203.trans (congrArg some (by kernel_rfl))
 f338:=Tryz.func204.trans (congrArg some (by kernel_rfl))
 t0:=Tryz.underlying0
 a0:=Tryz.isAgg0
 z0:=Tryz.sizeOf0
 v0:=Tryz.zeroValue0
 t2:=Tryz.underlying2
 a2:=Tryz.isAgg2
 z2:=Tryz.sizeOf2
 v2:=Tryz.zeroValue2
 t3:=Tryz.underlying3
 a3:=Tryz.isAgg3
 z3:=Tryz.sizeOf3
 v3:=Tryz.zeroValue3
 t4:=Tryz.underlying4
 a4:=Tryz.isAgg4
 z4:=Tryz.sizeOf4
 v4:=Tryz.zeroValue4
 t5:=Tryz.underlying5
 a5:=Tryz.isAgg5
 z5:=Tryz.sizeOf5
 v5:=Tryz.zeroValue5
 t9:=Tryz.underlying9
 a9:=Tryz.isAgg9
 z9:=Tryz.sizeOf9
 v9:=Tryz.zeroValue9
 t20:=Tryz.underlying20
 a20:=Tryz.isAgg20
 z20:=Tryz.sizeOf20
 v20:=Tryz.zeroValue20
 t37:=Tryz.underlying22
 a37:=Tryz.isAgg22
 z37:=Tryz.sizeOf22
 v37:=Tryz.zeroValue22
 t46:=Tryz.underlying112
 a46:=Tryz.isAgg112
 z46:=Tryz.sizeOf112
 v46:=Tryz.zeroValue112
 t51:=Tryz.underlying196
 a51:=Tryz.isAgg196
 z51:=Tryz.sizeOf196
 v51:=Tryz.zeroValue196
 t53:=Tryz.underlying47
 a53:=Tryz.isAgg47
 z53:=Tryz.sizeOf47
 v53:=Tryz.zeroValue47
 t171:=Tryz.underlying190
 a171:=Tryz.isAgg190
 z171:=Tryz.sizeOf190
 v171:=Tryz.zeroValue190
 t173:=Tryz.underlying193
 a173:=Tryz.isAgg193
 z173:=Tryz.sizeOf193
 v173:=Tryz.zeroValue193
 t212:=Tryz.underlying210
 a212:=Tryz.isAgg210
 z212:=Tryz.sizeOf210
 v212:=Tryz.zeroValue210
 t213:=Tryz.underlying211
 a213:=Tryz.isAgg211
 z213:=Tryz.sizeOf211
 t232:=Tryz.underlying223
 a232:=Tryz.isAgg223
 z232:=Tryz.sizeOf223
 v232:=Tryz.zeroValue223
 t233:=Tryz.underlying224
 a233:=Tryz.isAgg224
 z233:=Tryz.sizeOf224
 v233:=Tryz.zeroValue224
 g17:=by kernel_rfl
 g18:=by kernel_rfl
 g19:=by kernel_rfl}
theorem iX{w:World}(SI:Int)(pre0:(0≤SI∧SI≤9)):TF Tryz.prog 141 #[.int .i64 (SI)] w fun v w'=>v=.string (bs ((UN SI)))∧HE (UN SI)∧Ex w w':=by
 exact xY (ρ:=KQ) vZ SI pre0 w
end Go.Proofs.YtjgimhdmpcincaaGreatDoor
