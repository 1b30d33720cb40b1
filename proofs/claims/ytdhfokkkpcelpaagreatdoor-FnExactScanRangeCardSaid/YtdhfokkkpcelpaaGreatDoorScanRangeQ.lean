/- Scan Range: what strings.Split returns: the library's contract, laid at this program by its tool. -/
import Derived.Test.YtdhfokkkpcelpaaGreatDoorES
import Derived.Test.YtdhfokkkpcelpaaGreatDoorProg
import Derived.Test.YtdhfokkkpcelpaaGreatDoorScanRangeT
set_option linter.unusedVariables false
set_option linter.unusedSimpArgs false
namespace Go.Proofs.YtdhfokkkpcelpaaGreatDoor
open Go.RowKit Go.X
open Go.Shelf
def lays146_ren : Go.Shelf.Ren := ⟨fun | 146 => 79 | 221 => 93 | 268 => 101 | 138 => 102 | 143 => 103 | 195 => 109 | 197 => 110 | 218 => 111 | 219 => 112 | 260 => 115 | 217 => 91 | 225 => 116 | 224 => 117 | 267 => 118 | 266 => 99 | 314 => 121 | n => n, fun | 9 => 9 | 31 => 22 | 3 => 3 | 4 => 4 | 0 => 0 | 105 => 128 | 21 => 21 | 5 => 5 | 46 => 115 | 119 => 135 | 139 => 138 | 138 => 137 | 146 => 140 | 51 => 139 | n => n, fun | 1 => 0 | 3 => 1 | 4 => 2 | n => n⟩
theorem lays146 : Go.Proofs.Lays.n146 Tryz.prog lays146_ren := {
  mixed := by kernel_rfl
  f138 := Tryz.func102.trans (congrArg some (by kernel_rfl))
  f143 := Tryz.func103.trans (congrArg some (by kernel_rfl))
  f146 := Tryz.func79.trans (congrArg some (by kernel_rfl))
  f195 := Tryz.func109.trans (congrArg some (by kernel_rfl))
  f197 := Tryz.func110.trans (congrArg some (by kernel_rfl))
  f217 := Tryz.func91.trans (congrArg some (by kernel_rfl))
  f218 := Tryz.func111.trans (congrArg some (by kernel_rfl))
  f219 := Tryz.func112.trans (congrArg some (by kernel_rfl))
  f221 := Tryz.func93.trans (congrArg some (by kernel_rfl))
  f224 := Tryz.func117.trans (congrArg some (by kernel_rfl))
  f225 := Tryz.func116.trans (congrArg some (by kernel_rfl))
  f260 := Tryz.func115.trans (congrArg some (by kernel_rfl))
  f266 := Tryz.func99.trans (congrArg some (by kernel_rfl))
  f267 := Tryz.func118.trans (congrArg some (by kernel_rfl))
  f268 := Tryz.func101.trans (congrArg some (by kernel_rfl))
  f314 := Tryz.func121.trans (congrArg some (by kernel_rfl))
  t0 := Tryz.underlying0
  a0 := Tryz.isAgg0
  z0 := Tryz.sizeOf0
  v0 := Tryz.zeroValue0
  t3 := Tryz.underlying3
  a3 := Tryz.isAgg3
  z3 := Tryz.sizeOf3
  v3 := Tryz.zeroValue3
  t4 := Tryz.underlying4
  a4 := Tryz.isAgg4
  z4 := Tryz.sizeOf4
  v4 := Tryz.zeroValue4
  t5 := Tryz.underlying5
  a5 := Tryz.isAgg5
  z5 := Tryz.sizeOf5
  v5 := Tryz.zeroValue5
  t9 := Tryz.underlying9
  a9 := Tryz.isAgg9
  z9 := Tryz.sizeOf9
  v9 := Tryz.zeroValue9
  t21 := Tryz.underlying21
  a21 := Tryz.isAgg21
  z21 := Tryz.sizeOf21
  v21 := Tryz.zeroValue21
  t31 := Tryz.underlying22
  a31 := Tryz.isAgg22
  z31 := Tryz.sizeOf22
  v31 := Tryz.zeroValue22
  t46 := Tryz.underlying115
  a46 := Tryz.isAgg115
  z46 := Tryz.sizeOf115
  v46 := Tryz.zeroValue115
  t51 := Tryz.underlying139
  a51 := Tryz.isAgg139
  z51 := Tryz.sizeOf139
  v51 := Tryz.zeroValue139
  t105 := Tryz.underlying128
  a105 := Tryz.isAgg128
  z105 := Tryz.sizeOf128
  v105 := Tryz.zeroValue128
  t119 := Tryz.underlying135
  a119 := Tryz.isAgg135
  z119 := Tryz.sizeOf135
  t138 := Tryz.underlying137
  a138 := Tryz.isAgg137
  z138 := Tryz.sizeOf137
  v138 := Tryz.zeroValue137
  t139 := Tryz.underlying138
  a139 := Tryz.isAgg138
  z139 := Tryz.sizeOf138
  v139 := Tryz.zeroValue138
  t146 := Tryz.underlying140
  a146 := Tryz.isAgg140
  z146 := Tryz.sizeOf140
  v146 := Tryz.zeroValue140
  g1 := by kernel_rfl
  g3 := by kernel_rfl
  g4 := by kernel_rfl }

theorem c_g_strings_Split {w : World} (p_s : Str) (p_sep : Str) (o1 : okS p_s) (o2 : okS p_sep) (pre0 : p_sep.length = 1) : Cal Tryz.prog 79 #[.string (bs (p_s)), .string (bs (p_sep))] w fun v w' => ∃ A_1 c_1 lo_1 hi_1, v = .slice A_1 ((g_strings_Split p_s p_sep).length) c_1 ∧ OwnL w' lo_1 hi_1 9 1 (RF e_Str) A_1 ((g_strings_Split p_s p_sep).length) c_1 (g_strings_Split p_s p_sep) ∧ (okL okS) (g_strings_Split p_s p_sep) ∧ (w.heap.size ≤ lo_1 ∧ lo_1 ≤ hi_1 ∧ hi_1 ≤ w'.heap.size) ∧ Ex w w' := by
  cases p_sep with
  | nil => cases pre0
  | cons c l =>
    cases l with
    | nil => exact split_cal lays146 (by kernel_rfl) p_s c w o1
    | cons d l => exact absurd pre0 (by simp)
end Go.Proofs.YtdhfokkkpcelpaaGreatDoor
