/- Table Text: what strconv.Itoa returns: the library's contract, laid at this program by its tool. -/
import Derived.Test.YtficefnmkcejlaaDoorEI
import Derived.Test.YtficefnmkcejlaaDoorProg
import Derived.Test.YtficefnmkcejlaaDoorTableTextT
set_option linter.unusedVariables false
set_option linter.unusedSimpArgs false
namespace Go.Proofs.YtficefnmkcejlaaDoor
open Go.RowKit Go.X
open Go.Shelf
def lays171_ren : Go.Shelf.Ren := ⟨fun | 171 => 31 | 243 => 38 | 246 => 41 | 283 => 44 | 284 => 45 | 285 => 46 | 286 => 47 | 129 => 49 | 317 => 48 | 318 => 50 | 319 => 51 | 320 => 52 | 337 => 53 | 338 => 54 | n => n, fun | 3 => 3 | 9 => 9 | 2 => 2 | 4 => 4 | 171 => 72 | 0 => 0 | 53 => 73 | 37 => 57 | 5 => 5 | 173 => 76 | 212 => 80 | 51 => 81 | 20 => 20 | 213 => 82 | 46 => 83 | 232 => 86 | 233 => 87 | n => n, fun | 17 => 1 | 18 => 2 | 19 => 3 | n => n⟩
theorem lays171 : Go.Proofs.Lays.n171 Tryd.prog lays171_ren := {
  mixed := by kernel_rfl
  f129 := Tryd.func49.trans (congrArg some (by kernel_rfl))
  f171 := Tryd.func31.trans (congrArg some (by kernel_rfl))
  f243 := Tryd.func38.trans (congrArg some (by kernel_rfl))
  f246 := Tryd.func41.trans (congrArg some (by kernel_rfl))
  f283 := Tryd.func44.trans (congrArg some (by kernel_rfl))
  f284 := Tryd.func45.trans (congrArg some (by kernel_rfl))
  f285 := Tryd.func46.trans (congrArg some (by kernel_rfl))
  f286 := Tryd.func47.trans (congrArg some (by kernel_rfl))
  f317 := Tryd.func48.trans (congrArg some (by kernel_rfl))
  f318 := Tryd.func50.trans (congrArg some (by kernel_rfl))
  f319 := Tryd.func51.trans (congrArg some (by kernel_rfl))
  f320 := Tryd.func52.trans (congrArg some (by kernel_rfl))
  f337 := Tryd.func53.trans (congrArg some (by kernel_rfl))
  f338 := Tryd.func54.trans (congrArg some (by kernel_rfl))
  t0 := Tryd.underlying0
  a0 := Tryd.isAgg0
  z0 := Tryd.sizeOf0
  v0 := Tryd.zeroValue0
  t2 := Tryd.underlying2
  a2 := Tryd.isAgg2
  z2 := Tryd.sizeOf2
  v2 := Tryd.zeroValue2
  t3 := Tryd.underlying3
  a3 := Tryd.isAgg3
  z3 := Tryd.sizeOf3
  v3 := Tryd.zeroValue3
  t4 := Tryd.underlying4
  a4 := Tryd.isAgg4
  z4 := Tryd.sizeOf4
  v4 := Tryd.zeroValue4
  t5 := Tryd.underlying5
  a5 := Tryd.isAgg5
  z5 := Tryd.sizeOf5
  v5 := Tryd.zeroValue5
  t9 := Tryd.underlying9
  a9 := Tryd.isAgg9
  z9 := Tryd.sizeOf9
  v9 := Tryd.zeroValue9
  t20 := Tryd.underlying20
  a20 := Tryd.isAgg20
  z20 := Tryd.sizeOf20
  v20 := Tryd.zeroValue20
  t37 := Tryd.underlying57
  a37 := Tryd.isAgg57
  z37 := Tryd.sizeOf57
  v37 := Tryd.zeroValue57
  t46 := Tryd.underlying83
  a46 := Tryd.isAgg83
  z46 := Tryd.sizeOf83
  v46 := Tryd.zeroValue83
  t51 := Tryd.underlying81
  a51 := Tryd.isAgg81
  z51 := Tryd.sizeOf81
  v51 := Tryd.zeroValue81
  t53 := Tryd.underlying73
  a53 := Tryd.isAgg73
  z53 := Tryd.sizeOf73
  v53 := Tryd.zeroValue73
  t171 := Tryd.underlying72
  a171 := Tryd.isAgg72
  z171 := Tryd.sizeOf72
  v171 := Tryd.zeroValue72
  t173 := Tryd.underlying76
  a173 := Tryd.isAgg76
  z173 := Tryd.sizeOf76
  v173 := Tryd.zeroValue76
  t212 := Tryd.underlying80
  a212 := Tryd.isAgg80
  z212 := Tryd.sizeOf80
  v212 := Tryd.zeroValue80
  t213 := Tryd.underlying82
  a213 := Tryd.isAgg82
  z213 := Tryd.sizeOf82
  t232 := Tryd.underlying86
  a232 := Tryd.isAgg86
  z232 := Tryd.sizeOf86
  v232 := Tryd.zeroValue86
  t233 := Tryd.underlying87
  a233 := Tryd.isAgg87
  z233 := Tryd.sizeOf87
  v233 := Tryd.zeroValue87
  g17 := by kernel_rfl
  g18 := by kernel_rfl
  g19 := by kernel_rfl }

theorem c_g_strconv_Itoa {w : World} (p_i : Int) (pre0 : (0 ≤ p_i ∧ p_i ≤ 9)) : Cal Tryd.prog 31 #[.int .i64 (p_i)] w fun v w' => v = .string (bs ((g_strconv_Itoa p_i))) ∧ okS (g_strconv_Itoa p_i) ∧ Ex w w' := by
  exact itoa_cal (ρ := lays171_ren) lays171 p_i pre0 w
end Go.Proofs.YtficefnmkcejlaaDoor
