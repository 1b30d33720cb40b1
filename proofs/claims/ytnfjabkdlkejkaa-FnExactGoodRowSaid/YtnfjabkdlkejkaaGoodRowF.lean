/- Good Row: facts of the types and functions of the translation. -/
import Derived.Test.YtnfjabkdlkejkaaProg
import Derived.Test.YtnfjabkdlkejkaaE10
set_option linter.unusedVariables false
set_option linter.unusedSimpArgs false
namespace Go.Proofs.Ytnfjabkdlkejkaa
open Go.RowKit Go.X
theorem Try.follows : Try.prog.follows .mixedOrders = true := by kernel_rfl
theorem Try.ty3 : tyB Try.prog 3 = some (1, 8, some (.int .i64 (0)), false) := by kernel_rfl
theorem Try.ty9 : tyB Try.prog 9 = some (1, 16, some (.string (bs (([] : Str)))), false) := by kernel_rfl
theorem Try.ty73 : tyB Try.prog 73 = some (1, 24, some (.slice none 0 0), false) := by kernel_rfl
theorem Try.ty74 : tyB Try.prog 74 = some (1, 24, some (.slice none 0 0), false) := by kernel_rfl
theorem Try.ty76 : tyB Try.prog 76 = some (3, 64, some (.agg #[.string (bs (([] : Str))), .slice none 0 0, .slice none 0 0]), true) := by kernel_rfl
theorem Try.ty78 : tyB Try.prog 78 = some (1, 24, some (.agg #[.slice none 0 0]), true) := by kernel_rfl
theorem Try.ty82 : tyB Try.prog 82 = some (1, 24, some (.slice none 0 0), false) := by kernel_rfl
theorem Try.ty84 : tyB Try.prog 84 = some (3, 64, some (.agg #[.string (bs (([] : Str))), .slice none 0 0, .slice none 0 0]), true) := by kernel_rfl
theorem Try.ty86 : tyB Try.prog 86 = some (1, 24, some (.agg #[.slice none 0 0]), true) := by kernel_rfl
theorem Try.ty146 : tyB Try.prog 146 = some (3, 32, some (.agg #[.string (bs (([] : Str))), .int .i64 (0), .int .i64 (0)]), true) := by kernel_rfl
theorem Try.ty149 : tyB Try.prog 149 = some (3, 32, some (.agg #[.string (bs (([] : Str))), .int .i64 (0), .int .i64 (0)]), true) := by kernel_rfl
theorem Try.fd76_0 : fieldB Try.prog 76 0 = some (0, 0 + 1, false) := by kernel_rfl
theorem Try.fd76_1 : fieldB Try.prog 76 1 = some (1, 0 + 1, false) := by kernel_rfl
theorem Try.fd76_2 : fieldB Try.prog 76 2 = some (2, 0 + 1, false) := by kernel_rfl
theorem Try.fd78_0 : fieldB Try.prog 78 0 = some (0, 0 + 1, false) := by kernel_rfl
theorem Try.fd84_0 : fieldB Try.prog 84 0 = some (0, 0 + 1, false) := by kernel_rfl
theorem Try.fd84_1 : fieldB Try.prog 84 1 = some (1, 0 + 1, false) := by kernel_rfl
theorem Try.fd84_2 : fieldB Try.prog 84 2 = some (2, 0 + 1, false) := by kernel_rfl
theorem Try.fd86_0 : fieldB Try.prog 86 0 = some (0, 0 + 1, false) := by kernel_rfl
theorem Try.fd146_0 : fieldB Try.prog 146 0 = some (0, 0 + 1, false) := by kernel_rfl
theorem Try.fd146_1 : fieldB Try.prog 146 1 = some (1, 0 + 1, false) := by kernel_rfl
theorem Try.fd146_2 : fieldB Try.prog 146 2 = some (2, 0 + 1, false) := by kernel_rfl
theorem Try.fd149_0 : fieldB Try.prog 149 0 = some (0, 0 + 1, false) := by kernel_rfl
theorem Try.fd149_1 : fieldB Try.prog 149 1 = some (1, 0 + 1, false) := by kernel_rfl
theorem Try.fd149_2 : fieldB Try.prog 149 2 = some (2, 0 + 1, false) := by kernel_rfl
theorem Try.un4 : Try.prog.underlying 4 = some (.bool) := by kernel_rfl
theorem Try.un9 : Try.prog.underlying 9 = some (.string) := by kernel_rfl
theorem Try.un73 : Try.prog.underlying 73 = some (.slice 9) := by kernel_rfl
theorem Try.un74 : Try.prog.underlying 74 = some (.slice 146) := by kernel_rfl
theorem Try.un82 : Try.prog.underlying 82 = some (.slice 149) := by kernel_rfl
theorem Try.ex140 : Ext Try.prog 140 Extern.BytealgIndexByte.indexByte := ⟨_, Try.func140, by kernel_rfl, by kernel_rfl, by kernel_rfl, by kernel_rfl⟩
theorem Try.en42 : Enters Try.prog 42 := ⟨_, Try.func42, rfl, by kernel_rfl⟩
theorem Try.en43 : Enters Try.prog 43 := ⟨_, Try.func43, rfl, by kernel_rfl⟩
theorem Try.en44 : Enters Try.prog 44 := ⟨_, Try.func44, rfl, by kernel_rfl⟩
theorem Try.en45 : Enters Try.prog 45 := ⟨_, Try.func45, rfl, by kernel_rfl⟩
theorem Try.en46 : Enters Try.prog 46 := ⟨_, Try.func46, rfl, by kernel_rfl⟩
theorem Try.en47 : Enters Try.prog 47 := ⟨_, Try.func47, rfl, by kernel_rfl⟩
theorem Try.en48 : Enters Try.prog 48 := ⟨_, Try.func48, rfl, by kernel_rfl⟩
theorem Try.en49 : Enters Try.prog 49 := ⟨_, Try.func49, rfl, by kernel_rfl⟩
theorem Try.en50 : Enters Try.prog 50 := ⟨_, Try.func50, rfl, by kernel_rfl⟩
theorem Try.en51 : Enters Try.prog 51 := ⟨_, Try.func51, rfl, by kernel_rfl⟩
theorem Try.en56 : Enters Try.prog 56 := ⟨_, Try.func56, rfl, by kernel_rfl⟩
theorem Try.en89 : Enters Try.prog 89 := ⟨_, Try.func89, rfl, by kernel_rfl⟩
theorem Try.en90 : Enters Try.prog 90 := ⟨_, Try.func90, rfl, by kernel_rfl⟩
theorem Try.en91 : Enters Try.prog 91 := ⟨_, Try.func91, rfl, by kernel_rfl⟩
theorem Try.en92 : Enters Try.prog 92 := ⟨_, Try.func92, rfl, by kernel_rfl⟩
theorem Try.en93 : Enters Try.prog 93 := ⟨_, Try.func93, rfl, by kernel_rfl⟩
theorem Try.en94 : Enters Try.prog 94 := ⟨_, Try.func94, rfl, by kernel_rfl⟩
theorem Try.en95 : Enters Try.prog 95 := ⟨_, Try.func95, rfl, by kernel_rfl⟩
theorem Try.en96 : Enters Try.prog 96 := ⟨_, Try.func96, rfl, by kernel_rfl⟩
theorem Try.en97 : Enters Try.prog 97 := ⟨_, Try.func97, rfl, by kernel_rfl⟩
theorem Try.en98 : Enters Try.prog 98 := ⟨_, Try.func98, rfl, by kernel_rfl⟩
theorem Try.en99 : Enters Try.prog 99 := ⟨_, Try.func99, rfl, by kernel_rfl⟩
theorem Try.en100 : Enters Try.prog 100 := ⟨_, Try.func100, rfl, by kernel_rfl⟩
theorem Try.en115 : Enters Try.prog 115 := ⟨_, Try.func115, rfl, by kernel_rfl⟩
theorem Try.en116 : Enters Try.prog 116 := ⟨_, Try.func116, rfl, by kernel_rfl⟩
theorem Try.en117 : Enters Try.prog 117 := ⟨_, Try.func117, rfl, by kernel_rfl⟩
theorem Try.en118 : Enters Try.prog 118 := ⟨_, Try.func118, rfl, by kernel_rfl⟩
theorem Try.en119 : Enters Try.prog 119 := ⟨_, Try.func119, rfl, by kernel_rfl⟩
theorem Try.en120 : Enters Try.prog 120 := ⟨_, Try.func120, rfl, by kernel_rfl⟩
theorem Try.en121 : Enters Try.prog 121 := ⟨_, Try.func121, rfl, by kernel_rfl⟩
theorem Try.en122 : Enters Try.prog 122 := ⟨_, Try.func122, rfl, by kernel_rfl⟩
theorem Try.en123 : Enters Try.prog 123 := ⟨_, Try.func123, rfl, by kernel_rfl⟩
theorem Try.en124 : Enters Try.prog 124 := ⟨_, Try.func124, rfl, by kernel_rfl⟩
theorem Try.en125 : Enters Try.prog 125 := ⟨_, Try.func125, rfl, by kernel_rfl⟩
theorem Try.en126 : Enters Try.prog 126 := ⟨_, Try.func126, rfl, by kernel_rfl⟩
theorem Try.en127 : Enters Try.prog 127 := ⟨_, Try.func127, rfl, by kernel_rfl⟩
theorem Try.en134 : Enters Try.prog 134 := ⟨_, Try.func134, rfl, by kernel_rfl⟩
theorem Try.en135 : Enters Try.prog 135 := ⟨_, Try.func135, rfl, by kernel_rfl⟩
theorem Try.en136 : Enters Try.prog 136 := ⟨_, Try.func136, rfl, by kernel_rfl⟩
theorem Try.en137 : Enters Try.prog 137 := ⟨_, Try.func137, rfl, by kernel_rfl⟩
end Go.Proofs.Ytnfjabkdlkejkaa
