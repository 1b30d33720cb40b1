/- Fn Pieces: what strings.Split returns: the library's contract, laid at this program by its tool. -/
import Derived.Test.YtjgimhdmpcincaaGreatDoorES
import Derived.Test.YtjgimhdmpcincaaGreatDoorProg
import Derived.Test.YtjgimhdmpcincaaGreatDoorFnPiecesT
set_option linter.unusedVariables false
set_option linter.unusedSimpArgs false
namespace Go.Proofs.YtjgimhdmpcincaaGreatDoor
open Go.RowKit Go.X
open Go.Shelf
def rV:Go.Shelf.Ren:=⟨fun | 146=>102 | 221=>132 | 268=>153 | 138=>154 | 143=>155 | 195=>170 | 197=>171 | 218=>172 | 219=>169 | 260=>181 | 217=>129 | 225=>178 | 224=>179 | 267=>180 | 266=>151 | 314=>189 | n=>n,fun | 9=>9 | 31=>23 | 3=>3 | 4=>4 | 0=>0 | 105=>186 | 21=>21 | 5=>5 | 46=>112 | 119=>199 | 139=>202 | 138=>201 | 146=>197 | 51=>196 | n=>n,fun | 1=>0 | 3=>1 | 4=>2 | n=>n⟩
theorem uZ:Go.Proofs.Lays.n146 Tryz.prog rV:={
 mixed:=by kernel_rfl
 f138:=Tryz.func154.trans (congrArg some (by kernel_rfl))
 f143:=Tryz.func155.trans (congrArg some (by kernel_rfl))
 f146:=Tryz.func102.trans (congrArg some (by kernel_rfl))
 f195:=Tryz.func170.trans (congrArg some (by kernel_rfl))
 f197:=Tryz.func171.trans (congrArg some (by kernel_rfl))
 f217:=Tryz.func129.trans (congrArg some (by kernel_rfl))
 f218:=Tryz.func172.trans (congrArg some (by kernel_rfl))
 f219:=Tryz.func169.trans (congrArg some (by kernel_rfl))
 f221:=Tryz.func132.trans (congrArg some (by kernel_rfl))
 f224:=Tryz.func179.trans (congrArg some (by kernel_rfl))
 f225:=Tryz.func178.trans (congrArg some (by kernel_rfl))
 f260:=Tryz.func181.trans (congrArg some (by kernel_rfl))
 f266:=Tryz.func151.trans (congrArg some (by kernel_rfl))
 f267:=Tryz.func180.trans (congrArg some (by kernel_rfl))
 f268:=Tryz.func153.trans (congrArg some (by kernel_rfl))
 f314:=Tryz.func189.trans (congrArg some (by kernel_rfl))
 t0:=Tryz.underlying0
 a0:=Tryz.isAgg0
 z0:=Tryz.sizeOf0
 v0:=Tryz.zeroValue0
 t3:=Tryz.underlying3
 a3:=Tryz.isAgg3
 z3:=Tryz.sizeOf3
 v3:=Tryz.zeroValue3
 t4:=Tryz.underlying4
 a4:=Tryz.isAgg4
 z4:=Tryz.sizeOf4
 v4:=Tryz.zeroValue4
 t5:=Tryz.underlying5
 a5:=Tryz.isAgg5
 z5:=Tryz.sizeOf5
 v5:=Tryz.zeroValue5
 t9:=Tryz.underlying9
 a9:=Tryz.isAgg9
 z9:=Tryz.sizeOf9
 v9:=Tryz.zeroValue9
 t21:=Tryz.underlying21
 a21:=Tryz.isAgg21
 z21:=Tryz.sizeOf21
 v21:=Tryz.zeroValue21
 t31:=Tryz.underlying23
 a31:=Tryz.isAgg23
 z31:=Tryz.sizeOf23
 v31:=Tryz.zeroValue23
 t46:=Tryz.underlying112
 a46:=Tryz.isAgg112
 z46:=Tryz.sizeOf112
 v46:=Tryz.zeroValue112
 t51:=Tryz.underlying196
 a51:=Tryz.isAgg196
 z51:=Tryz.sizeOf196
 v51:=Tryz.zeroValue196
 t105:=Tryz.underlying186
 a105:=Tryz.isAgg186
 z105:=Tryz.sizeOf186
 v105:=Tryz.zeroValue186
 t119:=Tryz.underlying199
 a119:=Tryz.isAgg199
 z119:=Tryz.sizeOf199
 t138:=Tryz.underlying201
 a138:=Tryz.isAgg201
 z138:=Tryz.sizeOf201
 v138:=Tryz.zeroValue201
 t139:=Tryz.underlying202
 a139:=Tryz.isAgg202
 z139:=Tryz.sizeOf202
 v139:=Tryz.zeroValue202
 t146:=Tryz.underlying197
 a146:=Tryz.isAgg197
 z146:=Tryz.sizeOf197
 v146:=Tryz.zeroValue197
 g1:=by kernel_rfl
 g3:=by kernel_rfl
 g4:=by kernel_rfl}
theorem iP{w:World}(XA:uA)(cF:uA)(o1:HE XA)(o2:HE cF)(pre0:cF.length=1):TF Tryz.prog 102 #[.string (bs (XA)),.string (bs (cF))] w fun v w'=>∃A_1 c_1 lo_1 hi_1,v=.slice A_1 ((BD XA cF).length) c_1∧XB w' lo_1 hi_1 9 1 (RF nC) A_1 ((BD XA cF).length) c_1 (BD XA cF)∧(xF HE) (BD XA cF)∧(w.heap.size≤lo_1∧lo_1≤hi_1∧hi_1≤w'.heap.size)∧Ex w w':=by
 cases cF with
 | nil=>cases pre0
 | cons c l=>
  cases l with
  | nil=>exact NX uZ (by kernel_rfl) XA c w o1
  | cons d l=>exact absurd pre0 (by simp)
end Go.Proofs.YtjgimhdmpcincaaGreatDoor
