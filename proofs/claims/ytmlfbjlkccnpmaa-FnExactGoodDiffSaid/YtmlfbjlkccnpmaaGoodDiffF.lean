/- Good Diff: facts of the types and functions of the translation. -/
import Derived.Test.YtmlfbjlkccnpmaaProg
import Derived.Test.YtmlfbjlkccnpmaaGoodDiffT
set_option linter.unusedVariables false
set_option linter.unusedSimpArgs false
namespace Go.Proofs.Ytmlfbjlkccnpmaa
open Go.RowKit Go.X
theorem Try.follows : Try.prog.follows .mixedOrders = true := by kernel_rfl
theorem Try.ty3 : tyB Try.prog 3 = some (1, 8, some (.int .i64 (0)), false) := by kernel_rfl
theorem Try.ty4 : tyB Try.prog 4 = some (1, 1, some (.bool (false)), false) := by kernel_rfl
theorem Try.ty9 : tyB Try.prog 9 = some (1, 16, some (.string (bs (([] : Str)))), false) := by kernel_rfl
theorem Try.ty53 : tyB Try.prog 53 = some (1, 24, some (.slice none 0 0), false) := by kernel_rfl
theorem Try.ty55 : tyB Try.prog 55 = some (3, 40, some (.agg #[.int .i64 (0), .int .i64 (0), .slice none 0 0]), true) := by kernel_rfl
theorem Try.ty58 : tyB Try.prog 58 = some (1, 24, some (.slice none 0 0), false) := by kernel_rfl
theorem Try.ty60 : tyB Try.prog 60 = some (3, 40, some (.agg #[.int .i64 (0), .int .i64 (0), .slice none 0 0]), true) := by kernel_rfl
theorem Try.ty128 : tyB Try.prog 128 = some (5, 56, some (.agg #[.int .i64 (0), .int .i64 (0), .string (bs (([] : Str))), .string (bs (([] : Str))), .bool (false)]), true) := by kernel_rfl
theorem Try.ty188 : tyB Try.prog 188 = some (5, 56, some (.agg #[.int .i64 (0), .int .i64 (0), .string (bs (([] : Str))), .string (bs (([] : Str))), .bool (false)]), true) := by kernel_rfl
theorem Try.fd55_0 : fieldB Try.prog 55 0 = some (0, 0 + 1, false) := by kernel_rfl
theorem Try.fd55_1 : fieldB Try.prog 55 1 = some (1, 0 + 1, false) := by kernel_rfl
theorem Try.fd55_2 : fieldB Try.prog 55 2 = some (2, 0 + 1, false) := by kernel_rfl
theorem Try.fd60_0 : fieldB Try.prog 60 0 = some (0, 0 + 1, false) := by kernel_rfl
theorem Try.fd60_1 : fieldB Try.prog 60 1 = some (1, 0 + 1, false) := by kernel_rfl
theorem Try.fd60_2 : fieldB Try.prog 60 2 = some (2, 0 + 1, false) := by kernel_rfl
theorem Try.fd128_0 : fieldB Try.prog 128 0 = some (0, 0 + 1, false) := by kernel_rfl
theorem Try.fd128_1 : fieldB Try.prog 128 1 = some (1, 0 + 1, false) := by kernel_rfl
theorem Try.fd128_2 : fieldB Try.prog 128 2 = some (2, 0 + 1, false) := by kernel_rfl
theorem Try.fd128_3 : fieldB Try.prog 128 3 = some (3, 0 + 1, false) := by kernel_rfl
theorem Try.fd128_4 : fieldB Try.prog 128 4 = some (4, 0 + 1, false) := by kernel_rfl
theorem Try.fd188_0 : fieldB Try.prog 188 0 = some (0, 0 + 1, false) := by kernel_rfl
theorem Try.fd188_1 : fieldB Try.prog 188 1 = some (1, 0 + 1, false) := by kernel_rfl
theorem Try.fd188_2 : fieldB Try.prog 188 2 = some (2, 0 + 1, false) := by kernel_rfl
theorem Try.fd188_3 : fieldB Try.prog 188 3 = some (3, 0 + 1, false) := by kernel_rfl
theorem Try.fd188_4 : fieldB Try.prog 188 4 = some (4, 0 + 1, false) := by kernel_rfl
theorem Try.un4 : Try.prog.underlying 4 = some (.bool) := by kernel_rfl
theorem Try.un9 : Try.prog.underlying 9 = some (.string) := by kernel_rfl
theorem Try.un53 : Try.prog.underlying 53 = some (.slice 188) := by kernel_rfl
theorem Try.un58 : Try.prog.underlying 58 = some (.slice 128) := by kernel_rfl
theorem Try.un103 : Try.prog.underlying 103 = some (.slice 3) := by kernel_rfl
theorem Try.ex228 : Ext Try.prog 228 Extern.BytealgIndexByte.indexByte := ⟨_, Try.func228, by kernel_rfl, by kernel_rfl, by kernel_rfl, by kernel_rfl⟩
theorem Try.en27 : Enters Try.prog 27 := ⟨_, Try.func27, rfl, by kernel_rfl⟩
theorem Try.en28 : Enters Try.prog 28 := ⟨_, Try.func28, rfl, by kernel_rfl⟩
theorem Try.en29 : Enters Try.prog 29 := ⟨_, Try.func29, rfl, by kernel_rfl⟩
theorem Try.en30 : Enters Try.prog 30 := ⟨_, Try.func30, rfl, by kernel_rfl⟩
theorem Try.en31 : Enters Try.prog 31 := ⟨_, Try.func31, rfl, by kernel_rfl⟩
theorem Try.en78 : Enters Try.prog 78 := ⟨_, Try.func78, rfl, by kernel_rfl⟩
theorem Try.en79 : Enters Try.prog 79 := ⟨_, Try.func79, rfl, by kernel_rfl⟩
theorem Try.en80 : Enters Try.prog 80 := ⟨_, Try.func80, rfl, by kernel_rfl⟩
theorem Try.en81 : Enters Try.prog 81 := ⟨_, Try.func81, rfl, by kernel_rfl⟩
theorem Try.en82 : Enters Try.prog 82 := ⟨_, Try.func82, rfl, by kernel_rfl⟩
theorem Try.en83 : Enters Try.prog 83 := ⟨_, Try.func83, rfl, by kernel_rfl⟩
theorem Try.en84 : Enters Try.prog 84 := ⟨_, Try.func84, rfl, by kernel_rfl⟩
theorem Try.en85 : Enters Try.prog 85 := ⟨_, Try.func85, rfl, by kernel_rfl⟩
theorem Try.en124 : Enters Try.prog 124 := ⟨_, Try.func124, rfl, by kernel_rfl⟩
theorem Try.en129 : Enters Try.prog 129 := ⟨_, Try.func129, rfl, by kernel_rfl⟩
theorem Try.en152 : Enters Try.prog 152 := ⟨_, Try.func152, rfl, by kernel_rfl⟩
theorem Try.en153 : Enters Try.prog 153 := ⟨_, Try.func153, rfl, by kernel_rfl⟩
theorem Try.en154 : Enters Try.prog 154 := ⟨_, Try.func154, rfl, by kernel_rfl⟩
theorem Try.en155 : Enters Try.prog 155 := ⟨_, Try.func155, rfl, by kernel_rfl⟩
theorem Try.en156 : Enters Try.prog 156 := ⟨_, Try.func156, rfl, by kernel_rfl⟩
theorem Try.en157 : Enters Try.prog 157 := ⟨_, Try.func157, rfl, by kernel_rfl⟩
theorem Try.en158 : Enters Try.prog 158 := ⟨_, Try.func158, rfl, by kernel_rfl⟩
theorem Try.en159 : Enters Try.prog 159 := ⟨_, Try.func159, rfl, by kernel_rfl⟩
theorem Try.en189 : Enters Try.prog 189 := ⟨_, Try.func189, rfl, by kernel_rfl⟩
theorem Try.en190 : Enters Try.prog 190 := ⟨_, Try.func190, rfl, by kernel_rfl⟩
theorem Try.en193 : Enters Try.prog 193 := ⟨_, Try.func193, rfl, by kernel_rfl⟩
theorem Try.en194 : Enters Try.prog 194 := ⟨_, Try.func194, rfl, by kernel_rfl⟩
theorem Try.en195 : Enters Try.prog 195 := ⟨_, Try.func195, rfl, by kernel_rfl⟩
theorem Try.en196 : Enters Try.prog 196 := ⟨_, Try.func196, rfl, by kernel_rfl⟩
theorem Try.en197 : Enters Try.prog 197 := ⟨_, Try.func197, rfl, by kernel_rfl⟩
theorem Try.en198 : Enters Try.prog 198 := ⟨_, Try.func198, rfl, by kernel_rfl⟩
theorem Try.en199 : Enters Try.prog 199 := ⟨_, Try.func199, rfl, by kernel_rfl⟩
theorem Try.en202 : Enters Try.prog 202 := ⟨_, Try.func202, rfl, by kernel_rfl⟩
theorem Try.en212 : Enters Try.prog 212 := ⟨_, Try.func212, rfl, by kernel_rfl⟩
theorem Try.en213 : Enters Try.prog 213 := ⟨_, Try.func213, rfl, by kernel_rfl⟩
theorem Try.en214 : Enters Try.prog 214 := ⟨_, Try.func214, rfl, by kernel_rfl⟩
theorem Try.en215 : Enters Try.prog 215 := ⟨_, Try.func215, rfl, by kernel_rfl⟩
theorem Try.en216 : Enters Try.prog 216 := ⟨_, Try.func216, rfl, by kernel_rfl⟩
theorem Try.en217 : Enters Try.prog 217 := ⟨_, Try.func217, rfl, by kernel_rfl⟩
theorem Try.en218 : Enters Try.prog 218 := ⟨_, Try.func218, rfl, by kernel_rfl⟩
theorem Try.en219 : Enters Try.prog 219 := ⟨_, Try.func219, rfl, by kernel_rfl⟩
theorem Try.en222 : Enters Try.prog 222 := ⟨_, Try.func222, rfl, by kernel_rfl⟩
theorem Try.en223 : Enters Try.prog 223 := ⟨_, Try.func223, rfl, by kernel_rfl⟩
theorem Try.en224 : Enters Try.prog 224 := ⟨_, Try.func224, rfl, by kernel_rfl⟩
end Go.Proofs.Ytmlfbjlkccnpmaa
