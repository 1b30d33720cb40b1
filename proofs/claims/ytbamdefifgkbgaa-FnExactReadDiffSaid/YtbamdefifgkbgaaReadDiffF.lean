/- Read Diff: facts of the types and functions of the translation. -/
import Derived.Test.YtbamdefifgkbgaaProg
import Derived.Test.YtbamdefifgkbgaaReadDiffT
set_option linter.unusedVariables false
set_option linter.unusedSimpArgs false
namespace Go.Proofs.Ytbamdefifgkbgaa
open Go.RowKit Go.X
theorem Try.follows : Try.prog.follows .mixedOrders = true := by kernel_rfl
theorem Try.ty3 : tyB Try.prog 3 = some (1, 8, some (.int .i64 (0)), false) := by kernel_rfl
theorem Try.ty4 : tyB Try.prog 4 = some (1, 1, some (.bool (false)), false) := by kernel_rfl
theorem Try.ty5 : tyB Try.prog 5 = some (1, 1, some (.int .u8 (0)), false) := by kernel_rfl
theorem Try.ty9 : tyB Try.prog 9 = some (1, 16, some (.string (bs (([] : Str)))), false) := by kernel_rfl
theorem Try.ty30 : tyB Try.prog 30 = some (1, 24, some (.slice none 0 0), false) := by kernel_rfl
theorem Try.ty32 : tyB Try.prog 32 = some (3, 40, some (.agg #[.int .i64 (0), .int .i64 (0), .slice none 0 0]), true) := by kernel_rfl
theorem Try.ty63 : tyB Try.prog 63 = some (5, 56, some (.agg #[.int .i64 (0), .int .i64 (0), .string (bs (([] : Str))), .string (bs (([] : Str))), .bool (false)]), true) := by kernel_rfl
theorem Try.fd32_0 : fieldB Try.prog 32 0 = some (0, 0 + 1, false) := by kernel_rfl
theorem Try.fd32_1 : fieldB Try.prog 32 1 = some (1, 0 + 1, false) := by kernel_rfl
theorem Try.fd32_2 : fieldB Try.prog 32 2 = some (2, 0 + 1, false) := by kernel_rfl
theorem Try.fd49_0 : fieldB Try.prog 49 0 = some (0, 0 + 1, false) := by kernel_rfl
theorem Try.fd49_1 : fieldB Try.prog 49 1 = some (1, 0 + 1, false) := by kernel_rfl
theorem Try.fd49_2 : fieldB Try.prog 49 2 = some (2, 0 + 1, false) := by kernel_rfl
theorem Try.fd57_0 : fieldB Try.prog 57 0 = some (0, 0 + 1, false) := by kernel_rfl
theorem Try.fd57_1 : fieldB Try.prog 57 1 = some (1, 0 + 1, false) := by kernel_rfl
theorem Try.fd57_2 : fieldB Try.prog 57 2 = some (2, 0 + 1, false) := by kernel_rfl
theorem Try.fd63_0 : fieldB Try.prog 63 0 = some (0, 0 + 1, false) := by kernel_rfl
theorem Try.fd63_1 : fieldB Try.prog 63 1 = some (1, 0 + 1, false) := by kernel_rfl
theorem Try.fd63_2 : fieldB Try.prog 63 2 = some (2, 0 + 1, false) := by kernel_rfl
theorem Try.fd63_3 : fieldB Try.prog 63 3 = some (3, 0 + 1, false) := by kernel_rfl
theorem Try.fd63_4 : fieldB Try.prog 63 4 = some (4, 0 + 1, false) := by kernel_rfl
theorem Try.un3 : Try.prog.underlying 3 = some (.int .i64) := by kernel_rfl
theorem Try.un4 : Try.prog.underlying 4 = some (.bool) := by kernel_rfl
theorem Try.un5 : Try.prog.underlying 5 = some (.int .u8) := by kernel_rfl
theorem Try.un9 : Try.prog.underlying 9 = some (.string) := by kernel_rfl
theorem Try.un30 : Try.prog.underlying 30 = some (.slice 63) := by kernel_rfl
theorem Try.un101 : Try.prog.underlying 101 = some (.slice 5) := by kernel_rfl
theorem Try.un130 : Try.prog.underlying 130 = some (.slice 3) := by kernel_rfl
theorem Try.ex123 : Ext Try.prog 123 Extern.BytealgIndexByte.indexByte := ⟨_, Try.func123, by kernel_rfl, by kernel_rfl, by kernel_rfl, by kernel_rfl⟩
theorem Try.en11 : Enters Try.prog 11 := ⟨_, Try.func11, rfl, by kernel_rfl⟩
theorem Try.en12 : Enters Try.prog 12 := ⟨_, Try.func12, rfl, by kernel_rfl⟩
theorem Try.en13 : Enters Try.prog 13 := ⟨_, Try.func13, rfl, by kernel_rfl⟩
theorem Try.en14 : Enters Try.prog 14 := ⟨_, Try.func14, rfl, by kernel_rfl⟩
theorem Try.en15 : Enters Try.prog 15 := ⟨_, Try.func15, rfl, by kernel_rfl⟩
theorem Try.en22 : Enters Try.prog 22 := ⟨_, Try.func22, rfl, by kernel_rfl⟩
theorem Try.en23 : Enters Try.prog 23 := ⟨_, Try.func23, rfl, by kernel_rfl⟩
theorem Try.en24 : Enters Try.prog 24 := ⟨_, Try.func24, rfl, by kernel_rfl⟩
theorem Try.en26 : Enters Try.prog 26 := ⟨_, Try.func26, rfl, by kernel_rfl⟩
theorem Try.en27 : Enters Try.prog 27 := ⟨_, Try.func27, rfl, by kernel_rfl⟩
theorem Try.en28 : Enters Try.prog 28 := ⟨_, Try.func28, rfl, by kernel_rfl⟩
theorem Try.en34 : Enters Try.prog 34 := ⟨_, Try.func34, rfl, by kernel_rfl⟩
theorem Try.en35 : Enters Try.prog 35 := ⟨_, Try.func35, rfl, by kernel_rfl⟩
theorem Try.en36 : Enters Try.prog 36 := ⟨_, Try.func36, rfl, by kernel_rfl⟩
theorem Try.en37 : Enters Try.prog 37 := ⟨_, Try.func37, rfl, by kernel_rfl⟩
theorem Try.en38 : Enters Try.prog 38 := ⟨_, Try.func38, rfl, by kernel_rfl⟩
theorem Try.en39 : Enters Try.prog 39 := ⟨_, Try.func39, rfl, by kernel_rfl⟩
theorem Try.en40 : Enters Try.prog 40 := ⟨_, Try.func40, rfl, by kernel_rfl⟩
theorem Try.en41 : Enters Try.prog 41 := ⟨_, Try.func41, rfl, by kernel_rfl⟩
theorem Try.en46 : Enters Try.prog 46 := ⟨_, Try.func46, rfl, by kernel_rfl⟩
theorem Try.en49 : Enters Try.prog 49 := ⟨_, Try.func49, rfl, by kernel_rfl⟩
theorem Try.en51 : Enters Try.prog 51 := ⟨_, Try.func51, rfl, by kernel_rfl⟩
theorem Try.en52 : Enters Try.prog 52 := ⟨_, Try.func52, rfl, by kernel_rfl⟩
theorem Try.en54 : Enters Try.prog 54 := ⟨_, Try.func54, rfl, by kernel_rfl⟩
theorem Try.en55 : Enters Try.prog 55 := ⟨_, Try.func55, rfl, by kernel_rfl⟩
theorem Try.en56 : Enters Try.prog 56 := ⟨_, Try.func56, rfl, by kernel_rfl⟩
theorem Try.en57 : Enters Try.prog 57 := ⟨_, Try.func57, rfl, by kernel_rfl⟩
theorem Try.en58 : Enters Try.prog 58 := ⟨_, Try.func58, rfl, by kernel_rfl⟩
theorem Try.en60 : Enters Try.prog 60 := ⟨_, Try.func60, rfl, by kernel_rfl⟩
theorem Try.en62 : Enters Try.prog 62 := ⟨_, Try.func62, rfl, by kernel_rfl⟩
theorem Try.en63 : Enters Try.prog 63 := ⟨_, Try.func63, rfl, by kernel_rfl⟩
theorem Try.en64 : Enters Try.prog 64 := ⟨_, Try.func64, rfl, by kernel_rfl⟩
theorem Try.en65 : Enters Try.prog 65 := ⟨_, Try.func65, rfl, by kernel_rfl⟩
theorem Try.en66 : Enters Try.prog 66 := ⟨_, Try.func66, rfl, by kernel_rfl⟩
theorem Try.en67 : Enters Try.prog 67 := ⟨_, Try.func67, rfl, by kernel_rfl⟩
theorem Try.en68 : Enters Try.prog 68 := ⟨_, Try.func68, rfl, by kernel_rfl⟩
theorem Try.en78 : Enters Try.prog 78 := ⟨_, Try.func78, rfl, by kernel_rfl⟩
theorem Try.en79 : Enters Try.prog 79 := ⟨_, Try.func79, rfl, by kernel_rfl⟩
theorem Try.en80 : Enters Try.prog 80 := ⟨_, Try.func80, rfl, by kernel_rfl⟩
theorem Try.en82 : Enters Try.prog 82 := ⟨_, Try.func82, rfl, by kernel_rfl⟩
theorem Try.en86 : Enters Try.prog 86 := ⟨_, Try.func86, rfl, by kernel_rfl⟩
theorem Try.en87 : Enters Try.prog 87 := ⟨_, Try.func87, rfl, by kernel_rfl⟩
theorem Try.en88 : Enters Try.prog 88 := ⟨_, Try.func88, rfl, by kernel_rfl⟩
theorem Try.en89 : Enters Try.prog 89 := ⟨_, Try.func89, rfl, by kernel_rfl⟩
theorem Try.en90 : Enters Try.prog 90 := ⟨_, Try.func90, rfl, by kernel_rfl⟩
theorem Try.en95 : Enters Try.prog 95 := ⟨_, Try.func95, rfl, by kernel_rfl⟩
theorem Try.en96 : Enters Try.prog 96 := ⟨_, Try.func96, rfl, by kernel_rfl⟩
theorem Try.en97 : Enters Try.prog 97 := ⟨_, Try.func97, rfl, by kernel_rfl⟩
theorem Try.en100 : Enters Try.prog 100 := ⟨_, Try.func100, rfl, by kernel_rfl⟩
theorem Try.en104 : Enters Try.prog 104 := ⟨_, Try.func104, rfl, by kernel_rfl⟩
theorem Try.en105 : Enters Try.prog 105 := ⟨_, Try.func105, rfl, by kernel_rfl⟩
theorem Try.en106 : Enters Try.prog 106 := ⟨_, Try.func106, rfl, by kernel_rfl⟩
theorem Try.en107 : Enters Try.prog 107 := ⟨_, Try.func107, rfl, by kernel_rfl⟩
theorem Try.en109 : Enters Try.prog 109 := ⟨_, Try.func109, rfl, by kernel_rfl⟩
theorem Try.en110 : Enters Try.prog 110 := ⟨_, Try.func110, rfl, by kernel_rfl⟩
theorem Try.en111 : Enters Try.prog 111 := ⟨_, Try.func111, rfl, by kernel_rfl⟩
theorem Try.en113 : Enters Try.prog 113 := ⟨_, Try.func113, rfl, by kernel_rfl⟩
theorem Try.en114 : Enters Try.prog 114 := ⟨_, Try.func114, rfl, by kernel_rfl⟩
theorem Try.en115 : Enters Try.prog 115 := ⟨_, Try.func115, rfl, by kernel_rfl⟩
theorem Try.en116 : Enters Try.prog 116 := ⟨_, Try.func116, rfl, by kernel_rfl⟩
theorem Try.en117 : Enters Try.prog 117 := ⟨_, Try.func117, rfl, by kernel_rfl⟩
theorem Try.en118 : Enters Try.prog 118 := ⟨_, Try.func118, rfl, by kernel_rfl⟩
theorem Try.en119 : Enters Try.prog 119 := ⟨_, Try.func119, rfl, by kernel_rfl⟩
theorem Try.en120 : Enters Try.prog 120 := ⟨_, Try.func120, rfl, by kernel_rfl⟩
theorem Try.en121 : Enters Try.prog 121 := ⟨_, Try.func121, rfl, by kernel_rfl⟩
theorem Try.en122 : Enters Try.prog 122 := ⟨_, Try.func122, rfl, by kernel_rfl⟩
end Go.Proofs.Ytbamdefifgkbgaa
