/- Do Stmts: what strings.Split returns: the library's contract, laid at this program by its tool. -/
import Derived.Test.YtoimdjojffkefaaGreatDoorES
import Derived.Test.YtoimdjojffkefaaGreatDoorProg
import Derived.Test.YtoimdjojffkefaaGreatDoorDoStmtsT
set_option linter.unusedVariables false
set_option linter.unusedSimpArgs false
namespace Go.Proofs.YtoimdjojffkefaaGreatDoor
open Go.RowKit Go.X
open Go.Shelf
def kW:Go.Shelf.Ren:=⟨fun | 146=>155 | 221=>190 | 268=>216 | 138=>217 | 143=>218 | 195=>239 | 197=>240 | 218=>241 | 219=>238 | 260=>258 | 217=>236 | 225=>255 | 224=>256 | 267=>257 | 266=>254 | 314=>269 | n=>n,fun | 9=>9 | 31=>22 | 3=>3 | 4=>4 | 0=>0 | 105=>259 | 21=>21 | 5=>5 | 46=>229 | 119=>288 | 139=>291 | 138=>290 | 146=>286 | 51=>252 | n=>n,fun | 1=>0 | 3=>2 | 4=>3 | n=>n⟩
theorem Qc:Go.Proofs.Lays.n146 Tryz.prog kW:={
 mixed:=by kernel_rfl
 f138:=Tryz.func217.trans (congrArg some (by kernel_rfl))
 f143:=Tryz.func218.trans (congrArg some (by kernel_rfl))
 f146:=Tryz.func155.trans (congrArg some (by kernel_rfl))
 f195:=Tryz.func239.trans (congrArg some (by kernel_rfl))
 f197:=Tryz.func240.trans (congrArg some (by kernel_rfl))
 f217:=Tryz.func236.trans (congrArg some (by kernel_rfl))
 f218:=Tryz.func241.trans (congrArg some (by kernel_rfl))
 f219:=Tryz.func238.trans (congrArg some (by kernel_rfl))
 f221:=Tryz.func190.trans (congrArg some (by kernel_rfl))
 f224:=Tryz.func256.trans (congrArg some (by kernel_rfl))
 f225:=Tryz.func255.trans (congrArg some (by kernel_rfl))
 f260:=Tryz.func258.trans (congrArg some (by kernel_rfl))
 f266:=Tryz.func254.trans (congrArg some (by kernel_rfl))
 f267:=Tryz.func257.trans (congrArg some (by kernel_rfl))
 f268:=Tryz.func216.trans (congrArg some (by kernel_rfl))
 f314:=Tryz.func269.trans (congrArg some (by kernel_rfl))
 t0:=Tryz.underlying0
 a0:=Tryz.isAgg0
 z0:=Tryz.sizeOf0
 v0:=Tryz.zeroValue0
 t3:=Tryz.underlying3
 a3:=Tryz.isAgg3
 z3:=Tryz.sizeOf3
 v3:=Tryz.zeroValue3
 t4:=Tryz.underlying4
 a4:=Tryz.isAgg4
 z4:=Tryz.sizeOf4
 v4:=Tryz.zeroValue4
 t5:=Tryz.underlying5
 a5:=Tryz.isAgg5
 z5:=Tryz.sizeOf5
 v5:=Tryz.zeroValue5
 t9:=Tryz.underlying9
 a9:=Tryz.isAgg9
 z9:=Tryz.sizeOf9
 v9:=Tryz.zeroValue9
 t21:=Tryz.underlying21
 a21:=Tryz.isAgg21
 z21:=Tryz.sizeOf21
 v21:=Tryz.zeroValue21
 t31:=Tryz.underlying22
 a31:=Tryz.isAgg22
 z31:=Tryz.sizeOf22
 v31:=Tryz.zeroValue22
 t46:=Tryz.underlying229
 a46:=Tryz.isAgg229
 z46:=Tryz.sizeOf229
 v46:=Tryz.zeroValue229
 t51:=Tryz.underlying252
 a51:=Tryz.isAgg252
 z51:=Tryz.sizeOf252
 v51:=Tryz.zeroValue252
 t105:=Tryz.underlying259
 a105:=Tryz.isAgg259
 z105:=Tryz.sizeOf259
 v105:=Tryz.zeroValue259
 t119:=Tryz.underlying288
 a119:=Tryz.isAgg288
 z119:=Tryz.sizeOf288
 t138:=Tryz.underlying290
 a138:=Tryz.isAgg290
 z138:=Tryz.sizeOf290
 v138:=Tryz.zeroValue290
 t139:=Tryz.underlying291
 a139:=Tryz.isAgg291
 z139:=Tryz.sizeOf291
 v139:=Tryz.zeroValue291
 t146:=Tryz.underlying286
 a146:=Tryz.isAgg286
 z146:=Tryz.sizeOf286
 v146:=Tryz.zeroValue286
 g1:=by kernel_rfl
 g3:=by kernel_rfl
 g4:=by kernel_rfl}
theorem iL{w:World}(YA:vA)(KE:vA)(o1:QE YA)(o2:QE KE)(pre0:KE.length=1):dF Tryz.prog 155 #[.string (bs (YA)),.string (bs (KE))] w fun v w'=>∃A_1 c_1 lo_1 hi_1,v=.slice A_1 ((xA YA KE).length) c_1∧KB w' lo_1 hi_1 9 1 (RF PB) A_1 ((xA YA KE).length) c_1 (xA YA KE)∧(jG QE) (xA YA KE)∧(w.heap.size≤lo_1∧lo_1≤hi_1∧hi_1≤w'.heap.size)∧Ex w w':=by
 cases KE with
 | nil=>cases pre0
 | cons c l=>
  cases l with
  | nil=>exact wZ Qc (by kernel_rfl) YA c w o1
  | cons d l=>exact absurd pre0 (by simp)
end Go.Proofs.YtoimdjojffkefaaGreatDoor
