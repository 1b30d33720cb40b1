/- Good Copy: facts of the types and functions of the translation. -/
import Derived.Test.YtnfjabkdlkejkaaProg
import Derived.Test.YtnfjabkdlkejkaaE10
set_option linter.unusedVariables false
set_option linter.unusedSimpArgs false
namespace Go.Proofs.Ytnfjabkdlkejkaa
open Go.RowKit Go.X
theorem Try.follows : Try.prog.follows .mixedOrders = true := by kernel_rfl
theorem Try.ty3 : tyB Try.prog 3 = some (1, 8, some (.int .i64 (0)), false) := by kernel_rfl
theorem Try.ty4 : tyB Try.prog 4 = some (1, 1, some (.bool (false)), false) := by kernel_rfl
theorem Try.ty9 : tyB Try.prog 9 = some (1, 16, some (.string (bs (([] : Str)))), false) := by kernel_rfl
theorem Try.ty62 : tyB Try.prog 62 = some (1, 24, some (.slice none 0 0), false) := by kernel_rfl
theorem Try.ty64 : tyB Try.prog 64 = some (2, 32, some (.agg #[.int .i64 (0), .slice none 0 0]), true) := by kernel_rfl
theorem Try.ty67 : tyB Try.prog 67 = some (1, 24, some (.slice none 0 0), false) := by kernel_rfl
theorem Try.ty69 : tyB Try.prog 69 = some (2, 32, some (.agg #[.int .i64 (0), .slice none 0 0]), true) := by kernel_rfl
theorem Try.ty138 : tyB Try.prog 138 = some (3, 40, some (.agg #[.string (bs (([] : Str))), .string (bs (([] : Str))), .bool (false)]), true) := by kernel_rfl
theorem Try.ty139 : tyB Try.prog 139 = some (3, 40, some (.agg #[.string (bs (([] : Str))), .string (bs (([] : Str))), .bool (false)]), true) := by kernel_rfl
theorem Try.fd64_0 : fieldB Try.prog 64 0 = some (0, 0 + 1, false) := by kernel_rfl
theorem Try.fd64_1 : fieldB Try.prog 64 1 = some (1, 0 + 1, false) := by kernel_rfl
theorem Try.fd69_0 : fieldB Try.prog 69 0 = some (0, 0 + 1, false) := by kernel_rfl
theorem Try.fd69_1 : fieldB Try.prog 69 1 = some (1, 0 + 1, false) := by kernel_rfl
theorem Try.fd138_0 : fieldB Try.prog 138 0 = some (0, 0 + 1, false) := by kernel_rfl
theorem Try.fd138_1 : fieldB Try.prog 138 1 = some (1, 0 + 1, false) := by kernel_rfl
theorem Try.fd138_2 : fieldB Try.prog 138 2 = some (2, 0 + 1, false) := by kernel_rfl
theorem Try.fd139_0 : fieldB Try.prog 139 0 = some (0, 0 + 1, false) := by kernel_rfl
theorem Try.fd139_1 : fieldB Try.prog 139 1 = some (1, 0 + 1, false) := by kernel_rfl
theorem Try.fd139_2 : fieldB Try.prog 139 2 = some (2, 0 + 1, false) := by kernel_rfl
theorem Try.un4 : Try.prog.underlying 4 = some (.bool) := by kernel_rfl
theorem Try.un9 : Try.prog.underlying 9 = some (.string) := by kernel_rfl
theorem Try.un62 : Try.prog.underlying 62 = some (.slice 138) := by kernel_rfl
theorem Try.un67 : Try.prog.underlying 67 = some (.slice 139) := by kernel_rfl
theorem Try.un73 : Try.prog.underlying 73 = some (.slice 9) := by kernel_rfl
theorem Try.ex140 : Ext Try.prog 140 Extern.BytealgIndexByte.indexByte := ⟨_, Try.func140, by kernel_rfl, by kernel_rfl, by kernel_rfl, by kernel_rfl⟩
theorem Try.en37 : Enters Try.prog 37 := ⟨_, Try.func37, rfl, by kernel_rfl⟩
theorem Try.en38 : Enters Try.prog 38 := ⟨_, Try.func38, rfl, by kernel_rfl⟩
theorem Try.en39 : Enters Try.prog 39 := ⟨_, Try.func39, rfl, by kernel_rfl⟩
theorem Try.en40 : Enters Try.prog 40 := ⟨_, Try.func40, rfl, by kernel_rfl⟩
theorem Try.en41 : Enters Try.prog 41 := ⟨_, Try.func41, rfl, by kernel_rfl⟩
theorem Try.en50 : Enters Try.prog 50 := ⟨_, Try.func50, rfl, by kernel_rfl⟩
theorem Try.en54 : Enters Try.prog 54 := ⟨_, Try.func54, rfl, by kernel_rfl⟩
theorem Try.en55 : Enters Try.prog 55 := ⟨_, Try.func55, rfl, by kernel_rfl⟩
theorem Try.en56 : Enters Try.prog 56 := ⟨_, Try.func56, rfl, by kernel_rfl⟩
theorem Try.en83 : Enters Try.prog 83 := ⟨_, Try.func83, rfl, by kernel_rfl⟩
theorem Try.en84 : Enters Try.prog 84 := ⟨_, Try.func84, rfl, by kernel_rfl⟩
theorem Try.en85 : Enters Try.prog 85 := ⟨_, Try.func85, rfl, by kernel_rfl⟩
theorem Try.en86 : Enters Try.prog 86 := ⟨_, Try.func86, rfl, by kernel_rfl⟩
theorem Try.en87 : Enters Try.prog 87 := ⟨_, Try.func87, rfl, by kernel_rfl⟩
theorem Try.en88 : Enters Try.prog 88 := ⟨_, Try.func88, rfl, by kernel_rfl⟩
theorem Try.en99 : Enters Try.prog 99 := ⟨_, Try.func99, rfl, by kernel_rfl⟩
theorem Try.en100 : Enters Try.prog 100 := ⟨_, Try.func100, rfl, by kernel_rfl⟩
theorem Try.en108 : Enters Try.prog 108 := ⟨_, Try.func108, rfl, by kernel_rfl⟩
theorem Try.en109 : Enters Try.prog 109 := ⟨_, Try.func109, rfl, by kernel_rfl⟩
theorem Try.en110 : Enters Try.prog 110 := ⟨_, Try.func110, rfl, by kernel_rfl⟩
theorem Try.en111 : Enters Try.prog 111 := ⟨_, Try.func111, rfl, by kernel_rfl⟩
theorem Try.en112 : Enters Try.prog 112 := ⟨_, Try.func112, rfl, by kernel_rfl⟩
theorem Try.en113 : Enters Try.prog 113 := ⟨_, Try.func113, rfl, by kernel_rfl⟩
theorem Try.en114 : Enters Try.prog 114 := ⟨_, Try.func114, rfl, by kernel_rfl⟩
theorem Try.en126 : Enters Try.prog 126 := ⟨_, Try.func126, rfl, by kernel_rfl⟩
theorem Try.en127 : Enters Try.prog 127 := ⟨_, Try.func127, rfl, by kernel_rfl⟩
theorem Try.en128 : Enters Try.prog 128 := ⟨_, Try.func128, rfl, by kernel_rfl⟩
theorem Try.en129 : Enters Try.prog 129 := ⟨_, Try.func129, rfl, by kernel_rfl⟩
theorem Try.en130 : Enters Try.prog 130 := ⟨_, Try.func130, rfl, by kernel_rfl⟩
theorem Try.en131 : Enters Try.prog 131 := ⟨_, Try.func131, rfl, by kernel_rfl⟩
theorem Try.en132 : Enters Try.prog 132 := ⟨_, Try.func132, rfl, by kernel_rfl⟩
theorem Try.en133 : Enters Try.prog 133 := ⟨_, Try.func133, rfl, by kernel_rfl⟩
theorem Try.en137 : Enters Try.prog 137 := ⟨_, Try.func137, rfl, by kernel_rfl⟩
theorem Try.en138 : Enters Try.prog 138 := ⟨_, Try.func138, rfl, by kernel_rfl⟩
theorem Try.en139 : Enters Try.prog 139 := ⟨_, Try.func139, rfl, by kernel_rfl⟩
end Go.Proofs.Ytnfjabkdlkejkaa
