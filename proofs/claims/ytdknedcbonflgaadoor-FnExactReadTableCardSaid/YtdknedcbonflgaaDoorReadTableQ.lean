/- Read Table: what strings.Split returns: the library's contract, laid at this program by its tool. -/
import Derived.Test.YtdknedcbonflgaaDoorES
import Derived.Test.YtdknedcbonflgaaDoorProg
import Derived.Test.YtdknedcbonflgaaDoorReadTableT
set_option linter.unusedVariables false
set_option linter.unusedSimpArgs false
namespace Go.Proofs.YtdknedcbonflgaaDoor
open Go.RowKit Go.X
open Go.Shelf
def EI:Go.Shelf.Ren:=⟨fun | 146=>14 | 221=>32 | 268=>43 | 138=>44 | 143=>45 | 195=>56 | 197=>57 | 218=>58 | 219=>42 | 260=>69 | 217=>52 | 225=>53 | 224=>54 | 267=>55 | 266=>67 | 314=>68 | n=>n,fun | 9=>9 | 31=>22 | 3=>3 | 4=>4 | 0=>0 | 105=>74 | 21=>21 | 5=>5 | 46=>72 | 119=>102 | 139=>105 | 138=>104 | 146=>85 | 51=>84 | n=>n,fun | 1=>0 | 3=>3 | 4=>4 | n=>n⟩
theorem LK:Go.Proofs.Lays.n146 Tryd.prog EI:={
 mixed:=by kernel_rfl
 f138:=Tryd.func44.trans (congrArg some (by kernel_rfl))
 f143:=Tryd.func45.trans (congrArg some (by kernel_rfl))
 f146:=Tryd.func14.trans (congrArg some (by kernel_rfl))
 f195:=Tryd.func56.trans (congrArg some (by kernel_rfl))
 f197:=Tryd.func57.trans (congrArg some (by kernel_rfl))
 f217:=Tryd.func52.trans (congrArg some (by kernel_rfl))
 f218:=Tryd.func58.trans (congrArg some (by kernel_rfl))
 f219:=Tryd.func42.trans (congrArg some (by kernel_rfl))
 f221:=Tryd.func32.trans (congrArg some (by kernel_rfl))
 f224:=Tryd.func54.trans (congrArg some (by kernel_rfl))
 f225:=Tryd.func53.trans (congrArg some (by kernel_rfl))
 f260:=Tryd.func69.trans (congrArg some (by kernel_rfl))
 f266:=Tryd.func67.trans (congrArg some (by kernel_rfl))
 f267:=Tryd.func55.trans (congrArg some (by kernel_rfl))
 f268:=Tryd.func43.trans (congrArg some (by kernel_rfl))
 f314:=Tryd.func68.trans (congrArg some (by kernel_rfl))
 t0:=Tryd.underlying0
 a0:=Tryd.isAgg0
 z0:=Tryd.sizeOf0
 v0:=Tryd.zeroValue0
 t3:=Tryd.underlying3
 a3:=Tryd.isAgg3
 z3:=Tryd.sizeOf3
 v3:=Tryd.zeroValue3
 t4:=Tryd.underlying4
 a4:=Tryd.isAgg4
 z4:=Tryd.sizeOf4
 v4:=Tryd.zeroValue4
 t5:=Tryd.underlying5
 a5:=Tryd.isAgg5
 z5:=Tryd.sizeOf5
 v5:=Tryd.zeroValue5
 t9:=Tryd.underlying9
 a9:=Tryd.isAgg9
 z9:=Tryd.sizeOf9
 v9:=Tryd.zeroValue9
 t21:=Tryd.underlying21
 a21:=Tryd.isAgg21
 z21:=Tryd.sizeOf21
 v21:=Tryd.zeroValue21
 t31:=Tryd.underlying22
 a31:=Tryd.isAgg22
 z31:=Tryd.sizeOf22
 v31:=Tryd.zeroValue22
 t46:=Tryd.underlying72
 a46:=Tryd.isAgg72
 z46:=Tryd.sizeOf72
 v46:=Tryd.zeroValue72
 t51:=Tryd.underlying84
 a51:=Tryd.isAgg84
 z51:=Tryd.sizeOf84
 v51:=Tryd.zeroValue84
 t105:=Tryd.underlying74
 a105:=Tryd.isAgg74
 z105:=Tryd.sizeOf74
 v105:=Tryd.zeroValue74
 t119:=Tryd.underlying102
 a119:=Tryd.isAgg102
 z119:=Tryd.sizeOf102
 t138:=Tryd.underlying104
 a138:=Tryd.isAgg104
 z138:=Tryd.sizeOf104
 v138:=Tryd.zeroValue104
 t139:=Tryd.underlying105
 a139:=Tryd.isAgg105
 z139:=Tryd.sizeOf105
 v139:=Tryd.zeroValue105
 t146:=Tryd.underlying85
 a146:=Tryd.isAgg85
 z146:=Tryd.sizeOf85
 v146:=Tryd.zeroValue85
 g1:=by kernel_rfl
 g3:=by kernel_rfl
 g4:=by kernel_rfl}
theorem JD{w:World}(WA:nA)(oB:nA)(o1:bD WA)(o2:bD oB)(pre0:oB.length=1):OD Tryd.prog 14 #[.string (bs (WA)),.string (bs (oB))] w fun v w'=>∃A_1 c_1 lo_1 hi_1,v=.slice A_1 ((bA WA oB).length) c_1∧dB w' lo_1 hi_1 9 1 (RF kC) A_1 ((bA WA oB).length) c_1 (bA WA oB)∧(BF bD) (bA WA oB)∧(w.heap.size≤lo_1∧lo_1≤hi_1∧hi_1≤w'.heap.size)∧Ex w w':=by
 cases oB with
 | nil=>cases pre0
 | cons c l=>
  cases l with
  | nil=>exact TJ LK (by kernel_rfl) WA c w o1
  | cons d l=>exact absurd pre0 (by simp)
end Go.Proofs.YtdknedcbonflgaaDoor
