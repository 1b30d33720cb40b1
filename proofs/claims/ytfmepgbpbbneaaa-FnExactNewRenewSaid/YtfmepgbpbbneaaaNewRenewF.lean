/- New Renew: facts of the types and functions of the translation. -/
import Derived.Test.YtfmepgbpbbneaaaProg
import Derived.Test.YtfmepgbpbbneaaaNewRenewT
set_option linter.unusedVariables false
set_option linter.unusedSimpArgs false
namespace Go.Proofs.Ytfmepgbpbbneaaa
open Go.RowKit Go.X
theorem Try.follows : Try.prog.follows .mixedOrders = true := by kernel_rfl
theorem Try.ty3 : tyB Try.prog 3 = some (1, 8, some (.int .i64 (0)), false) := by kernel_rfl
theorem Try.ty23 : tyB Try.prog 23 = some (1, 8, some (.agg #[.int .i64 (0)]), true) := by kernel_rfl
theorem Try.ty24 : tyB Try.prog 24 = some (1, 24, some (.slice none 0 0), false) := by kernel_rfl
theorem Try.ty25 : tyB Try.prog 25 = some (1, 24, some (.slice none 0 0), false) := by kernel_rfl
theorem Try.ty27 : tyB Try.prog 27 = some (5, 72, some (.agg #[.int .i64 (0), .int .i64 (0), .slice none 0 0, .int .i64 (0), .slice none 0 0]), true) := by kernel_rfl
theorem Try.ty162 : tyB Try.prog 162 = some (2, 16, some (.agg #[.int .i64 (0), .int .i64 (0)]), true) := by kernel_rfl
theorem Try.fd23_0 : fieldB Try.prog 23 0 = some (0, 0 + 1, false) := by kernel_rfl
theorem Try.fd27_0 : fieldB Try.prog 27 0 = some (0, 0 + 1, false) := by kernel_rfl
theorem Try.fd27_1 : fieldB Try.prog 27 1 = some (1, 0 + 1, true) := by kernel_rfl
theorem Try.fd27_2 : fieldB Try.prog 27 2 = some (2, 0 + 1, false) := by kernel_rfl
theorem Try.fd27_3 : fieldB Try.prog 27 3 = some (3, 0 + 1, false) := by kernel_rfl
theorem Try.fd27_4 : fieldB Try.prog 27 4 = some (4, 0 + 1, false) := by kernel_rfl
theorem Try.fd162_0 : fieldB Try.prog 162 0 = some (0, 0 + 1, false) := by kernel_rfl
theorem Try.fd162_1 : fieldB Try.prog 162 1 = some (1, 0 + 1, false) := by kernel_rfl
theorem Try.un4 : Try.prog.underlying 4 = some (.bool) := by kernel_rfl
theorem Try.un24 : Try.prog.underlying 24 = some (.slice 23) := by kernel_rfl
theorem Try.un25 : Try.prog.underlying 25 = some (.slice 162) := by kernel_rfl
theorem Try.en10 : Enters Try.prog 10 := ⟨_, Try.func10, rfl, by kernel_rfl⟩
theorem Try.en11 : Enters Try.prog 11 := ⟨_, Try.func11, rfl, by kernel_rfl⟩
theorem Try.en12 : Enters Try.prog 12 := ⟨_, Try.func12, rfl, by kernel_rfl⟩
theorem Try.en13 : Enters Try.prog 13 := ⟨_, Try.func13, rfl, by kernel_rfl⟩
theorem Try.en14 : Enters Try.prog 14 := ⟨_, Try.func14, rfl, by kernel_rfl⟩
theorem Try.en50 : Enters Try.prog 50 := ⟨_, Try.func50, rfl, by kernel_rfl⟩
theorem Try.en51 : Enters Try.prog 51 := ⟨_, Try.func51, rfl, by kernel_rfl⟩
theorem Try.en52 : Enters Try.prog 52 := ⟨_, Try.func52, rfl, by kernel_rfl⟩
theorem Try.en53 : Enters Try.prog 53 := ⟨_, Try.func53, rfl, by kernel_rfl⟩
theorem Try.en54 : Enters Try.prog 54 := ⟨_, Try.func54, rfl, by kernel_rfl⟩
theorem Try.en55 : Enters Try.prog 55 := ⟨_, Try.func55, rfl, by kernel_rfl⟩
theorem Try.en56 : Enters Try.prog 56 := ⟨_, Try.func56, rfl, by kernel_rfl⟩
theorem Try.en57 : Enters Try.prog 57 := ⟨_, Try.func57, rfl, by kernel_rfl⟩
theorem Try.en58 : Enters Try.prog 58 := ⟨_, Try.func58, rfl, by kernel_rfl⟩
theorem Try.en115 : Enters Try.prog 115 := ⟨_, Try.func115, rfl, by kernel_rfl⟩
end Go.Proofs.Ytfmepgbpbbneaaa
