/- Read Row: what strings.Split returns: the library's contract, laid at this program by its tool. -/
import Derived.Test.YtdbobbmagmcpnaaDoorES
import Derived.Test.YtdbobbmagmcpnaaDoorProg
import Derived.Test.YtdbobbmagmcpnaaDoorReadRowT
set_option linter.unusedVariables false
set_option linter.unusedSimpArgs false
namespace Go.Proofs.YtdbobbmagmcpnaaDoor
open Go.RowKit Go.X
open Go.Shelf
def lays146_ren : Go.Shelf.Ren := ⟨fun | 146 => 52 | 221 => 68 | 268 => 84 | 138 => 85 | 143 => 86 | 195 => 94 | 197 => 95 | 218 => 96 | 219 => 97 | 260 => 102 | 217 => 103 | 225 => 104 | 224 => 105 | 267 => 106 | 266 => 109 | 314 => 110 | n => n, fun | 9 => 9 | 31 => 22 | 3 => 3 | 4 => 4 | 0 => 0 | 105 => 118 | 21 => 21 | 5 => 5 | 46 => 124 | 119 => 128 | 139 => 131 | 138 => 130 | 146 => 133 | 51 => 132 | n => n, fun | 1 => 0 | 3 => 1 | 4 => 2 | n => n⟩
theorem lays146 : Go.Proofs.Lays.n146 Tryd.prog lays146_ren := {
  mixed := by kernel_rfl
  f138 := Tryd.func85.trans (congrArg some (by kernel_rfl))
  f143 := Tryd.func86.trans (congrArg some (by kernel_rfl))
  f146 := Tryd.func52.trans (congrArg some (by kernel_rfl))
  f195 := Tryd.func94.trans (congrArg some (by kernel_rfl))
  f197 := Tryd.func95.trans (congrArg some (by kernel_rfl))
  f217 := Tryd.func103.trans (congrArg some (by kernel_rfl))
  f218 := Tryd.func96.trans (congrArg some (by kernel_rfl))
  f219 := Tryd.func97.trans (congrArg some (by kernel_rfl))
  f221 := Tryd.func68.trans (congrArg some (by kernel_rfl))
  f224 := Tryd.func105.trans (congrArg some (by kernel_rfl))
  f225 := Tryd.func104.trans (congrArg some (by kernel_rfl))
  f260 := Tryd.func102.trans (congrArg some (by kernel_rfl))
  f266 := Tryd.func109.trans (congrArg some (by kernel_rfl))
  f267 := Tryd.func106.trans (congrArg some (by kernel_rfl))
  f268 := Tryd.func84.trans (congrArg some (by kernel_rfl))
  f314 := Tryd.func110.trans (congrArg some (by kernel_rfl))
  t0 := Tryd.underlying0
  a0 := Tryd.isAgg0
  z0 := Tryd.sizeOf0
  v0 := Tryd.zeroValue0
  t3 := Tryd.underlying3
  a3 := Tryd.isAgg3
  z3 := Tryd.sizeOf3
  v3 := Tryd.zeroValue3
  t4 := Tryd.underlying4
  a4 := Tryd.isAgg4
  z4 := Tryd.sizeOf4
  v4 := Tryd.zeroValue4
  t5 := Tryd.underlying5
  a5 := Tryd.isAgg5
  z5 := Tryd.sizeOf5
  v5 := Tryd.zeroValue5
  t9 := Tryd.underlying9
  a9 := Tryd.isAgg9
  z9 := Tryd.sizeOf9
  v9 := Tryd.zeroValue9
  t21 := Tryd.underlying21
  a21 := Tryd.isAgg21
  z21 := Tryd.sizeOf21
  v21 := Tryd.zeroValue21
  t31 := Tryd.underlying22
  a31 := Tryd.isAgg22
  z31 := Tryd.sizeOf22
  v31 := Tryd.zeroValue22
  t46 := Tryd.underlying124
  a46 := Tryd.isAgg124
  z46 := Tryd.sizeOf124
  v46 := Tryd.zeroValue124
  t51 := Tryd.underlying132
  a51 := Tryd.isAgg132
  z51 := Tryd.sizeOf132
  v51 := Tryd.zeroValue132
  t105 := Tryd.underlying118
  a105 := Tryd.isAgg118
  z105 := Tryd.sizeOf118
  v105 := Tryd.zeroValue118
  t119 := Tryd.underlying128
  a119 := Tryd.isAgg128
  z119 := Tryd.sizeOf128
  t138 := Tryd.underlying130
  a138 := Tryd.isAgg130
  z138 := Tryd.sizeOf130
  v138 := Tryd.zeroValue130
  t139 := Tryd.underlying131
  a139 := Tryd.isAgg131
  z139 := Tryd.sizeOf131
  v139 := Tryd.zeroValue131
  t146 := Tryd.underlying133
  a146 := Tryd.isAgg133
  z146 := Tryd.sizeOf133
  v146 := Tryd.zeroValue133
  g1 := by kernel_rfl
  g3 := by kernel_rfl
  g4 := by kernel_rfl }

theorem c_g_strings_Split {w : World} (p_s : Str) (p_sep : Str) (o1 : okS p_s) (o2 : okS p_sep) (pre0 : p_sep.length = 1) : Cal Tryd.prog 52 #[.string (bs (p_s)), .string (bs (p_sep))] w fun v w' => ∃ A_1 c_1 lo_1 hi_1, v = .slice A_1 ((g_strings_Split p_s p_sep).length) c_1 ∧ OwnL w' lo_1 hi_1 9 1 (RF e_Str) A_1 ((g_strings_Split p_s p_sep).length) c_1 (g_strings_Split p_s p_sep) ∧ (okL okS) (g_strings_Split p_s p_sep) ∧ (w.heap.size ≤ lo_1 ∧ lo_1 ≤ hi_1 ∧ hi_1 ≤ w'.heap.size) ∧ Ex w w' := by
  cases p_sep with
  | nil => cases pre0
  | cons c l =>
    cases l with
    | nil => exact split_cal lays146 (by kernel_rfl) p_s c w o1
    | cons d l => exact absurd pre0 (by simp)
end Go.Proofs.YtdbobbmagmcpnaaDoor
