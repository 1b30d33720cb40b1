/- Good Fill: facts of the types and functions of the translation. -/
import Derived.Test.YtnfjabkdlkejkaaProg
import Derived.Test.YtnfjabkdlkejkaaE10
set_option linter.unusedVariables false
set_option linter.unusedSimpArgs false
namespace Go.Proofs.Ytnfjabkdlkejkaa
open Go.RowKit Go.X
theorem Try.follows : Try.prog.follows .mixedOrders = true := by kernel_rfl
theorem Try.ty4 : tyB Try.prog 4 = some (1, 1, some (.bool (false)), false) := by kernel_rfl
theorem Try.ty9 : tyB Try.prog 9 = some (1, 16, some (.string (bs (([] : Str)))), false) := by kernel_rfl
theorem Try.ty26 : tyB Try.prog 26 = some (2, 24, some (.agg #[.string (bs (([] : Str))), .bool (false)]), true) := by kernel_rfl
theorem Try.ty29 : tyB Try.prog 29 = some (2, 24, some (.agg #[.string (bs (([] : Str))), .bool (false)]), true) := by kernel_rfl
theorem Try.fd26_0 : fieldB Try.prog 26 0 = some (0, 0 + 1, false) := by kernel_rfl
theorem Try.fd26_1 : fieldB Try.prog 26 1 = some (1, 0 + 1, false) := by kernel_rfl
theorem Try.fd29_0 : fieldB Try.prog 29 0 = some (0, 0 + 1, false) := by kernel_rfl
theorem Try.fd29_1 : fieldB Try.prog 29 1 = some (1, 0 + 1, false) := by kernel_rfl
theorem Try.un4 : Try.prog.underlying 4 = some (.bool) := by kernel_rfl
theorem Try.un9 : Try.prog.underlying 9 = some (.string) := by kernel_rfl
theorem Try.ex140 : Ext Try.prog 140 Extern.BytealgIndexByte.indexByte := ⟨_, Try.func140, by kernel_rfl, by kernel_rfl, by kernel_rfl, by kernel_rfl⟩
theorem Try.en15 : Enters Try.prog 15 := ⟨_, Try.func15, rfl, by kernel_rfl⟩
theorem Try.en16 : Enters Try.prog 16 := ⟨_, Try.func16, rfl, by kernel_rfl⟩
theorem Try.en17 : Enters Try.prog 17 := ⟨_, Try.func17, rfl, by kernel_rfl⟩
theorem Try.en18 : Enters Try.prog 18 := ⟨_, Try.func18, rfl, by kernel_rfl⟩
theorem Try.en50 : Enters Try.prog 50 := ⟨_, Try.func50, rfl, by kernel_rfl⟩
theorem Try.en54 : Enters Try.prog 54 := ⟨_, Try.func54, rfl, by kernel_rfl⟩
theorem Try.en55 : Enters Try.prog 55 := ⟨_, Try.func55, rfl, by kernel_rfl⟩
theorem Try.en56 : Enters Try.prog 56 := ⟨_, Try.func56, rfl, by kernel_rfl⟩
theorem Try.en99 : Enters Try.prog 99 := ⟨_, Try.func99, rfl, by kernel_rfl⟩
theorem Try.en100 : Enters Try.prog 100 := ⟨_, Try.func100, rfl, by kernel_rfl⟩
theorem Try.en126 : Enters Try.prog 126 := ⟨_, Try.func126, rfl, by kernel_rfl⟩
theorem Try.en127 : Enters Try.prog 127 := ⟨_, Try.func127, rfl, by kernel_rfl⟩
theorem Try.en137 : Enters Try.prog 137 := ⟨_, Try.func137, rfl, by kernel_rfl⟩
end Go.Proofs.Ytnfjabkdlkejkaa
