/- Fn Tables: what strings.Split returns: the library's contract, laid at this program by its tool. -/
import Derived.Test.YtgfkmgjpannelaaGreatDoorES
import Derived.Test.YtgfkmgjpannelaaGreatDoorProg
import Derived.Test.YtgfkmgjpannelaaGreatDoorFnTablesT
set_option linter.unusedVariables false
set_option linter.unusedSimpArgs false
namespace Go.Proofs.YtgfkmgjpannelaaGreatDoor
open Go.RowKit Go.X
open Go.Shelf
def lays146_ren : Go.Shelf.Ren := ⟨fun | 146 => 45 | 221 => 68 | 268 => 83 | 138 => 84 | 143 => 85 | 195 => 95 | 197 => 96 | 218 => 97 | 219 => 82 | 260 => 111 | 217 => 91 | 225 => 92 | 224 => 93 | 267 => 94 | 266 => 109 | 314 => 110 | n => n, fun | 9 => 9 | 31 => 23 | 3 => 3 | 4 => 4 | 0 => 0 | 105 => 114 | 21 => 21 | 5 => 5 | 46 => 110 | 119 => 143 | 139 => 146 | 138 => 145 | 146 => 131 | 51 => 130 | n => n, fun | 1 => 0 | 3 => 4 | 4 => 5 | n => n⟩
theorem lays146 : Go.Proofs.Lays.n146 Tryz.prog lays146_ren := {
  mixed := by kernel_rfl
  f138 := Tryz.func84.trans (congrArg some (by kernel_rfl))
  f143 := Tryz.func85.trans (congrArg some (by kernel_rfl))
  f146 := Tryz.func45.trans (congrArg some (by kernel_rfl))
  f195 := Tryz.func95.trans (congrArg some (by kernel_rfl))
  f197 := Tryz.func96.trans (congrArg some (by kernel_rfl))
  f217 := Tryz.func91.trans (congrArg some (by kernel_rfl))
  f218 := Tryz.func97.trans (congrArg some (by kernel_rfl))
  f219 := Tryz.func82.trans (congrArg some (by kernel_rfl))
  f221 := Tryz.func68.trans (congrArg some (by kernel_rfl))
  f224 := Tryz.func93.trans (congrArg some (by kernel_rfl))
  f225 := Tryz.func92.trans (congrArg some (by kernel_rfl))
  f260 := Tryz.func111.trans (congrArg some (by kernel_rfl))
  f266 := Tryz.func109.trans (congrArg some (by kernel_rfl))
  f267 := Tryz.func94.trans (congrArg some (by kernel_rfl))
  f268 := Tryz.func83.trans (congrArg some (by kernel_rfl))
  f314 := Tryz.func110.trans (congrArg some (by kernel_rfl))
  t0 := Tryz.underlying0
  a0 := Tryz.isAgg0
  z0 := Tryz.sizeOf0
  v0 := Tryz.zeroValue0
  t3 := Tryz.underlying3
  a3 := Tryz.isAgg3
  z3 := Tryz.sizeOf3
  v3 := Tryz.zeroValue3
  t4 := Tryz.underlying4
  a4 := Tryz.isAgg4
  z4 := Tryz.sizeOf4
  v4 := Tryz.zeroValue4
  t5 := Tryz.underlying5
  a5 := Tryz.isAgg5
  z5 := Tryz.sizeOf5
  v5 := Tryz.zeroValue5
  t9 := Tryz.underlying9
  a9 := Tryz.isAgg9
  z9 := Tryz.sizeOf9
  v9 := Tryz.zeroValue9
  t21 := Tryz.underlying21
  a21 := Tryz.isAgg21
  z21 := Tryz.sizeOf21
  v21 := Tryz.zeroValue21
  t31 := Tryz.underlying23
  a31 := Tryz.isAgg23
  z31 := Tryz.sizeOf23
  v31 := Tryz.zeroValue23
  t46 := Tryz.underlying110
  a46 := Tryz.isAgg110
  z46 := Tryz.sizeOf110
  v46 := Tryz.zeroValue110
  t51 := Tryz.underlying130
  a51 := Tryz.isAgg130
  z51 := Tryz.sizeOf130
  v51 := Tryz.zeroValue130
  t105 := Tryz.underlying114
  a105 := Tryz.isAgg114
  z105 := Tryz.sizeOf114
  v105 := Tryz.zeroValue114
  t119 := Tryz.underlying143
  a119 := Tryz.isAgg143
  z119 := Tryz.sizeOf143
  t138 := Tryz.underlying145
  a138 := Tryz.isAgg145
  z138 := Tryz.sizeOf145
  v138 := Tryz.zeroValue145
  t139 := Tryz.underlying146
  a139 := Tryz.isAgg146
  z139 := Tryz.sizeOf146
  v139 := Tryz.zeroValue146
  t146 := Tryz.underlying131
  a146 := Tryz.isAgg131
  z146 := Tryz.sizeOf131
  v146 := Tryz.zeroValue131
  g1 := by kernel_rfl
  g3 := by kernel_rfl
  g4 := by kernel_rfl }

theorem c_g_strings_Split {w : World} (p_s : Str) (p_sep : Str) (o1 : okS p_s) (o2 : okS p_sep) (pre0 : p_sep.length = 1) : Cal Tryz.prog 45 #[.string (bs (p_s)), .string (bs (p_sep))] w fun v w' => ∃ A_1 c_1 lo_1 hi_1, v = .slice A_1 ((g_strings_Split p_s p_sep).length) c_1 ∧ OwnL w' lo_1 hi_1 9 1 (RF e_Str) A_1 ((g_strings_Split p_s p_sep).length) c_1 (g_strings_Split p_s p_sep) ∧ (okL okS) (g_strings_Split p_s p_sep) ∧ (w.heap.size ≤ lo_1 ∧ lo_1 ≤ hi_1 ∧ hi_1 ≤ w'.heap.size) ∧ Ex w w' := by
  cases p_sep with
  | nil => cases pre0
  | cons c l =>
    cases l with
    | nil => exact split_cal lays146 (by kernel_rfl) p_s c w o1
    | cons d l => exact absurd pre0 (by simp)
end Go.Proofs.YtgfkmgjpannelaaGreatDoor
