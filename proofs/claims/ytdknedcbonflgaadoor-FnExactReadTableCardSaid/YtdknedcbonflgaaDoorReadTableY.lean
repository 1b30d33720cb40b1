/- Read Table: what strconv.Itoa returns: the library's contract, laid at this program by its tool. -/
import Derived.Test.YtdknedcbonflgaaDoorEI
import Derived.Test.YtdknedcbonflgaaDoorProg
import Derived.Test.YtdknedcbonflgaaDoorReadTableT
set_option linter.unusedVariables false
set_option linter.unusedSimpArgs false
namespace Go.Proofs.YtdknedcbonflgaaDoor
open Go.RowKit Go.X
open Go.Shelf
def CG:Go.Shelf.Ren:=⟨fun | 171=>35 | 243=>48 | 246=>64 | 283=>73 | 284=>74 | 285=>75 | 286=>76 | 129=>82 | 317=>81 | 318=>83 | 319=>84 | 320=>85 | 337=>86 | 338=>87 | n=>n,fun | 3=>3 | 9=>9 | 2=>2 | 4=>4 | 171=>94 | 0=>0 | 53=>87 | 37=>61 | 5=>5 | 173=>97 | 212=>111 | 51=>84 | 20=>20 | 213=>112 | 46=>72 | 232=>115 | 233=>116 | n=>n,fun | 17=>5 | 18=>6 | 19=>7 | n=>n⟩
theorem MK:Go.Proofs.Lays.n171 Tryd.prog CG:={
 mixed:=by kernel_rfl
 f129:=Tryd.func82.trans (congrArg some (by kernel_rfl))
 f171:=Tryd.func35.trans (congrArg some (by kernel_rfl))
 f243:=Tryd.func48.trans (congrArg some (by kernel_rfl))
 f246:=Tryd.func64.trans (congrArg some (by kernel_rfl))
 f283:=Tryd.func73.trans (congrArg some (by kernel_rfl))
 f284:=Tryd.func74.trans (congrArg some (by kernel_rfl))
 f285:=Tryd.func75.trans (congrArg some (by kernel_rfl))
 f286:=Tryd.func76.trans (congrArg some (by kernel_rfl))
 f317:=Tryd.func81.trans (congrArg some (by kernel_rfl))
 f318:=Tryd.func83.trans (congrArg some (by kernel_rfl))
 f319:=Tryd.func84.trans (congrArg some (by kernel_rfl))
 f320:=Tryd.func85.trans (congrArg some (by kernel_rfl))
 f337:=Tryd.func86.trans (congrArg some (by kernel_rfl))
 f338:=Tryd.func87.trans (congrArg some (by kernel_rfl))
 t0:=Tryd.underlying0
 a0:=Tryd.isAgg0
 z0:=Tryd.sizeOf0
 v0:=Tryd.zeroValue0
 t2:=Tryd.underlying2
 a2:=Tryd.isAgg2
 z2:=Tryd.sizeOf2
 v2:=Tryd.zeroValue2
 t3:=Tryd.underlying3
 a3:=Tryd.isAgg3
 z3:=Tryd.sizeOf3
 v3:=Tryd.zeroValue3
 t4:=Tryd.underlying4
 a4:=Tryd.isAgg4
 z4:=Tryd.sizeOf4
 v4:=Tryd.zeroValue4
 t5:=Tryd.underlying5
 a5:=Tryd.isAgg5
 z5:=Tryd.sizeOf5
 v5:=Tryd.zeroValue5
 t9:=Tryd.underlying9
 a9:=Tryd.isAgg9
 z9:=Tryd.sizeOf9
 v9:=Tryd.zeroValue9
 t20:=Tryd.underlying20
 a20:=Tryd.isAgg20
 z20:=Tryd.sizeOf20
 v20:=Tryd.zeroValue20
 t37:=Tryd.underlying61
 a37:=Tryd.isAgg61
 z37:=Tryd.sizeOf61
 v37:=Tryd.zeroValue61
 t46:=Tryd.underlying72
 a46:=Tryd.isAgg72
 z46:=Tryd.sizeOf72
 v46:=Tryd.zeroValue72
 t51:=Tryd.underlying84
 a51:=Tryd.isAgg84
 z51:=Tryd.sizeOf84
 v51:=Tryd.zeroValue84
 t53:=Tryd.underlying87
 a53:=Tryd.isAgg87
 z53:=Tryd.sizeOf87
 v53:=Tryd.zeroValue87
 t171:=Tryd.underlying94
 a171:=Tryd.isAgg94
 z171:=Tryd.sizeOf94
 v171:=Tryd.zeroValue94
 t173:=Tryd.underlying97
 a173:=Tryd.isAgg97
 z173:=Tryd.sizeOf97
 v173:=Tryd.zeroValue97
 t212:=Tryd.underlying111
 a212:=Tryd.isAgg111
 z212:=Tryd.sizeOf111
 v212:=Tryd.zeroValue111
 t213:=Tryd.underlying112
 a213:=Tryd.isAgg112
 z213:=Tryd.sizeOf112
 t232:=Tryd.underlying115
 a232:=Tryd.isAgg115
 z232:=Tryd.sizeOf115
 v232:=Tryd.zeroValue115
 t233:=Tryd.underlying116
 a233:=Tryd.isAgg116
 z233:=Tryd.sizeOf116
 v233:=Tryd.zeroValue116
 g17:=by kernel_rfl
 g18:=by kernel_rfl
 g19:=by kernel_rfl}
theorem GE{w:World}(dL:Int)(pre0:(0≤dL∧dL≤9)):OD Tryd.prog 35 #[.int .i64 (dL)] w fun v w'=>v=.string (bs ((eB dL)))∧bD (eB dL)∧Ex w w':=by
 exact iK (ρ:=CG) MK dL pre0 w
end Go.Proofs.YtdknedcbonflgaaDoor
