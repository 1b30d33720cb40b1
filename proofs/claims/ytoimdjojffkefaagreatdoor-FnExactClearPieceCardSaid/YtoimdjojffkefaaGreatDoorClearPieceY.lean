/- Clear Piece: what strconv.Itoa returns: the library's contract, laid at this program by its tool. -/
import Derived.Test.YtoimdjojffkefaaGreatDoorEI
import Derived.Test.YtoimdjojffkefaaGreatDoorProg
import Derived.Test.YtoimdjojffkefaaGreatDoorClearPieceT
set_option linter.unusedVariables false
set_option linter.unusedSimpArgs false
namespace Go.Proofs.YtoimdjojffkefaaGreatDoor
open Go.RowKit Go.X
open Go.Shelf
def iN:Go.Shelf.Ren:=⟨fun | 171=>180 | 243=>205 | 246=>234 | 283=>249 | 284=>250 | 285=>251 | 286=>252 | 129=>228 | 317=>265 | 318=>266 | 319=>267 | 320=>268 | 337=>273 | 338=>274 | n=>n,fun | 3=>3 | 9=>9 | 2=>2 | 4=>4 | 171=>268 | 0=>0 | 53=>254 | 37=>127 | 5=>5 | 173=>270 | 212=>284 | 51=>252 | 20=>20 | 213=>285 | 46=>229 | 232=>301 | 233=>302 | n=>n,fun | 17=>1 | 18=>6 | 19=>7 | n=>n⟩
theorem BV:Go.Proofs.Lays.n171 Tryz.prog iN:={
 mixed:=by kernel_rfl
 f129:=Tryz.func228.trans (congrArg some (by kernel_rfl))
 f171:=Tryz.func180.trans (congrArg some (by kernel_rfl))
 f243:=Tryz.func205.trans (congrArg some (by kernel_rfl))
 f246:=Tryz.func234.trans (congrArg some (by kernel_rfl))
 f283:=Tryz.func249.trans (congrArg some (by kernel_rfl))
 f284:=Tryz.func250.trans (congrArg some (by kernel_rfl))
 f285:=Tryz.func251.trans (congrArg some (by kernel_rfl))
 f286:=Tryz.func252.trans (congrArg some (by kernel_rfl))
 f317:=Tryz.func265.trans (congrArg some (by kernel_rfl))
 f318:=Tryz.func266.trans (congrArg some (by kernel_rfl))
 f319:=Tryz.func267.trans (congrArg some (by kernel_rfl))
 f320:=Tryz.func268.trans (congrArg some (by kernel_rfl))
 f337:=Tryz.func273.trans (congrArg some (by kernel_rfl))
 f338:=Tryz.func274.trans (congrArg some (by kernel_rfl))
 t0:=Tryz.underlying0
 a0:=Tryz.isAgg0
 z0:=Tryz.sizeOf0
 v0:=Tryz.zeroValue0
 t2:=Tryz.underlying2
 a2:=Tryz.isAgg2
 z2:=Tryz.sizeOf2
 v2:=Tryz.zeroValue2
 t3:=Tryz.underlying3
 a3:=Tryz.isAgg3
 z3:=Tryz.sizeOf3
 v3:=Tryz.zeroValue3
 t4:=Tryz.underlying4
 a4:=Tryz.isAgg4
 z4:=Tryz.sizeOf4
 v4:=Tryz.zeroValue4
 t5:=Tryz.underlying5
 a5:=Tryz.isAgg5
 z5:=Tryz.sizeOf5
 v5:=Tryz.zeroValue5
 t9:=Tryz.underlying9
 a9:=Tryz.isAgg9
 z9:=Tryz.sizeOf9
 v9:=Tryz.zeroValue9
 t20:=Tryz.underlying20
 a20:=Tryz.isAgg20
 z20:=Tryz.sizeOf20
 v20:=Tryz.zeroValue20
 t37:=Tryz.underlying127
 a37:=Tryz.isAgg127
 z37:=Tryz.sizeOf127
 v37:=Tryz.zeroValue127
 t46:=Tryz.underlying229
 a46:=Tryz.isAgg229
 z46:=Tryz.sizeOf229
 v46:=Tryz.zeroValue229
 t51:=Tryz.underlying252
 a51:=Tryz.isAgg252
 z51:=Tryz.sizeOf252
 v51:=Tryz.zeroValue252
 t53:=Tryz.underlying254
 a53:=Tryz.isAgg254
 z53:=Tryz.sizeOf254
 v53:=Tryz.zeroValue254
 t171:=Tryz.underlying268
 a171:=Tryz.isAgg268
 z171:=Tryz.sizeOf268
 v171:=Tryz.zeroValue268
 t173:=Tryz.underlying270
 a173:=Tryz.isAgg270
 z173:=Tryz.sizeOf270
 v173:=Tryz.zeroValue270
 t212:=Tryz.underlying284
 a212:=Tryz.isAgg284
 z212:=Tryz.sizeOf284
 v212:=Tryz.zeroValue284
 t213:=Tryz.underlying285
 a213:=Tryz.isAgg285
 z213:=Tryz.sizeOf285
 t232:=Tryz.underlying301
 a232:=Tryz.isAgg301
 z232:=Tryz.sizeOf301
 v232:=Tryz.zeroValue301
 t233:=Tryz.underlying302
 a233:=Tryz.isAgg302
 z233:=Tryz.sizeOf302
 v233:=Tryz.zeroValue302
 g17:=by kernel_rfl
 g18:=by kernel_rfl
 g19:=by kernel_rfl}
theorem fT{w:World}(aH:Int)(pre0:(0≤aH∧aH≤9)):yE Tryz.prog 180 #[.int .i64 (aH)] w fun v w'=>v=.string (bs ((kL aH)))∧sE (kL aH)∧Ex w w':=by
 exact EU (ρ:=iN) BV aH pre0 w
end Go.Proofs.YtoimdjojffkefaaGreatDoor
