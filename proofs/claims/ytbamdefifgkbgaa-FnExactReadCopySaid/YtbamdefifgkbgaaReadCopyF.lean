/- Read Copy: facts of the types and functions of the translation. -/
import Derived.Test.YtbamdefifgkbgaaProg
import Derived.Test.YtbamdefifgkbgaaReadCopyT
set_option linter.unusedVariables false
set_option linter.unusedSimpArgs false
namespace Go.Proofs.Ytbamdefifgkbgaa
open Go.RowKit Go.X
theorem Try.follows : Try.prog.follows .mixedOrders = true := by kernel_rfl
theorem Try.ty3 : tyB Try.prog 3 = some (1, 8, some (.int .i64 (0)), false) := by kernel_rfl
theorem Try.ty4 : tyB Try.prog 4 = some (1, 1, some (.bool (false)), false) := by kernel_rfl
theorem Try.ty5 : tyB Try.prog 5 = some (1, 1, some (.int .u8 (0)), false) := by kernel_rfl
theorem Try.ty9 : tyB Try.prog 9 = some (1, 16, some (.string (bs (([] : Str)))), false) := by kernel_rfl
theorem Try.ty22 : tyB Try.prog 22 = some (1, 24, some (.slice none 0 0), false) := by kernel_rfl
theorem Try.ty24 : tyB Try.prog 24 = some (2, 32, some (.agg #[.int .i64 (0), .slice none 0 0]), true) := by kernel_rfl
theorem Try.ty53 : tyB Try.prog 53 = some (3, 40, some (.agg #[.string (bs (([] : Str))), .string (bs (([] : Str))), .bool (false)]), true) := by kernel_rfl
theorem Try.fd24_0 : fieldB Try.prog 24 0 = some (0, 0 + 1, false) := by kernel_rfl
theorem Try.fd24_1 : fieldB Try.prog 24 1 = some (1, 0 + 1, false) := by kernel_rfl
theorem Try.fd49_0 : fieldB Try.prog 49 0 = some (0, 0 + 1, false) := by kernel_rfl
theorem Try.fd49_1 : fieldB Try.prog 49 1 = some (1, 0 + 1, false) := by kernel_rfl
theorem Try.fd49_2 : fieldB Try.prog 49 2 = some (2, 0 + 1, false) := by kernel_rfl
theorem Try.fd53_0 : fieldB Try.prog 53 0 = some (0, 0 + 1, false) := by kernel_rfl
theorem Try.fd53_1 : fieldB Try.prog 53 1 = some (1, 0 + 1, false) := by kernel_rfl
theorem Try.fd53_2 : fieldB Try.prog 53 2 = some (2, 0 + 1, false) := by kernel_rfl
theorem Try.fd57_0 : fieldB Try.prog 57 0 = some (0, 0 + 1, false) := by kernel_rfl
theorem Try.fd57_1 : fieldB Try.prog 57 1 = some (1, 0 + 1, false) := by kernel_rfl
theorem Try.fd57_2 : fieldB Try.prog 57 2 = some (2, 0 + 1, false) := by kernel_rfl
theorem Try.un3 : Try.prog.underlying 3 = some (.int .i64) := by kernel_rfl
theorem Try.un4 : Try.prog.underlying 4 = some (.bool) := by kernel_rfl
theorem Try.un5 : Try.prog.underlying 5 = some (.int .u8) := by kernel_rfl
theorem Try.un9 : Try.prog.underlying 9 = some (.string) := by kernel_rfl
theorem Try.un22 : Try.prog.underlying 22 = some (.slice 53) := by kernel_rfl
theorem Try.un96 : Try.prog.underlying 96 = some (.slice 9) := by kernel_rfl
theorem Try.un101 : Try.prog.underlying 101 = some (.slice 5) := by kernel_rfl
theorem Try.ex123 : Ext Try.prog 123 Extern.BytealgIndexByte.indexByte := ⟨_, Try.func123, by kernel_rfl, by kernel_rfl, by kernel_rfl, by kernel_rfl⟩
theorem Try.en6 : Enters Try.prog 6 := ⟨_, Try.func6, rfl, by kernel_rfl⟩
theorem Try.en7 : Enters Try.prog 7 := ⟨_, Try.func7, rfl, by kernel_rfl⟩
theorem Try.en8 : Enters Try.prog 8 := ⟨_, Try.func8, rfl, by kernel_rfl⟩
theorem Try.en9 : Enters Try.prog 9 := ⟨_, Try.func9, rfl, by kernel_rfl⟩
theorem Try.en10 : Enters Try.prog 10 := ⟨_, Try.func10, rfl, by kernel_rfl⟩
theorem Try.en22 : Enters Try.prog 22 := ⟨_, Try.func22, rfl, by kernel_rfl⟩
theorem Try.en23 : Enters Try.prog 23 := ⟨_, Try.func23, rfl, by kernel_rfl⟩
theorem Try.en24 : Enters Try.prog 24 := ⟨_, Try.func24, rfl, by kernel_rfl⟩
theorem Try.en25 : Enters Try.prog 25 := ⟨_, Try.func25, rfl, by kernel_rfl⟩
theorem Try.en26 : Enters Try.prog 26 := ⟨_, Try.func26, rfl, by kernel_rfl⟩
theorem Try.en27 : Enters Try.prog 27 := ⟨_, Try.func27, rfl, by kernel_rfl⟩
theorem Try.en28 : Enters Try.prog 28 := ⟨_, Try.func28, rfl, by kernel_rfl⟩
theorem Try.en29 : Enters Try.prog 29 := ⟨_, Try.func29, rfl, by kernel_rfl⟩
theorem Try.en30 : Enters Try.prog 30 := ⟨_, Try.func30, rfl, by kernel_rfl⟩
theorem Try.en31 : Enters Try.prog 31 := ⟨_, Try.func31, rfl, by kernel_rfl⟩
theorem Try.en32 : Enters Try.prog 32 := ⟨_, Try.func32, rfl, by kernel_rfl⟩
theorem Try.en33 : Enters Try.prog 33 := ⟨_, Try.func33, rfl, by kernel_rfl⟩
theorem Try.en34 : Enters Try.prog 34 := ⟨_, Try.func34, rfl, by kernel_rfl⟩
theorem Try.en36 : Enters Try.prog 36 := ⟨_, Try.func36, rfl, by kernel_rfl⟩
theorem Try.en46 : Enters Try.prog 46 := ⟨_, Try.func46, rfl, by kernel_rfl⟩
theorem Try.en49 : Enters Try.prog 49 := ⟨_, Try.func49, rfl, by kernel_rfl⟩
theorem Try.en51 : Enters Try.prog 51 := ⟨_, Try.func51, rfl, by kernel_rfl⟩
theorem Try.en52 : Enters Try.prog 52 := ⟨_, Try.func52, rfl, by kernel_rfl⟩
theorem Try.en53 : Enters Try.prog 53 := ⟨_, Try.func53, rfl, by kernel_rfl⟩
theorem Try.en54 : Enters Try.prog 54 := ⟨_, Try.func54, rfl, by kernel_rfl⟩
theorem Try.en55 : Enters Try.prog 55 := ⟨_, Try.func55, rfl, by kernel_rfl⟩
theorem Try.en56 : Enters Try.prog 56 := ⟨_, Try.func56, rfl, by kernel_rfl⟩
theorem Try.en57 : Enters Try.prog 57 := ⟨_, Try.func57, rfl, by kernel_rfl⟩
theorem Try.en58 : Enters Try.prog 58 := ⟨_, Try.func58, rfl, by kernel_rfl⟩
theorem Try.en59 : Enters Try.prog 59 := ⟨_, Try.func59, rfl, by kernel_rfl⟩
theorem Try.en60 : Enters Try.prog 60 := ⟨_, Try.func60, rfl, by kernel_rfl⟩
theorem Try.en61 : Enters Try.prog 61 := ⟨_, Try.func61, rfl, by kernel_rfl⟩
theorem Try.en75 : Enters Try.prog 75 := ⟨_, Try.func75, rfl, by kernel_rfl⟩
theorem Try.en78 : Enters Try.prog 78 := ⟨_, Try.func78, rfl, by kernel_rfl⟩
theorem Try.en79 : Enters Try.prog 79 := ⟨_, Try.func79, rfl, by kernel_rfl⟩
theorem Try.en80 : Enters Try.prog 80 := ⟨_, Try.func80, rfl, by kernel_rfl⟩
theorem Try.en81 : Enters Try.prog 81 := ⟨_, Try.func81, rfl, by kernel_rfl⟩
theorem Try.en82 : Enters Try.prog 82 := ⟨_, Try.func82, rfl, by kernel_rfl⟩
theorem Try.en83 : Enters Try.prog 83 := ⟨_, Try.func83, rfl, by kernel_rfl⟩
theorem Try.en84 : Enters Try.prog 84 := ⟨_, Try.func84, rfl, by kernel_rfl⟩
theorem Try.en85 : Enters Try.prog 85 := ⟨_, Try.func85, rfl, by kernel_rfl⟩
theorem Try.en96 : Enters Try.prog 96 := ⟨_, Try.func96, rfl, by kernel_rfl⟩
theorem Try.en97 : Enters Try.prog 97 := ⟨_, Try.func97, rfl, by kernel_rfl⟩
theorem Try.en100 : Enters Try.prog 100 := ⟨_, Try.func100, rfl, by kernel_rfl⟩
theorem Try.en101 : Enters Try.prog 101 := ⟨_, Try.func101, rfl, by kernel_rfl⟩
theorem Try.en102 : Enters Try.prog 102 := ⟨_, Try.func102, rfl, by kernel_rfl⟩
theorem Try.en103 : Enters Try.prog 103 := ⟨_, Try.func103, rfl, by kernel_rfl⟩
theorem Try.en109 : Enters Try.prog 109 := ⟨_, Try.func109, rfl, by kernel_rfl⟩
theorem Try.en110 : Enters Try.prog 110 := ⟨_, Try.func110, rfl, by kernel_rfl⟩
theorem Try.en111 : Enters Try.prog 111 := ⟨_, Try.func111, rfl, by kernel_rfl⟩
theorem Try.en113 : Enters Try.prog 113 := ⟨_, Try.func113, rfl, by kernel_rfl⟩
theorem Try.en117 : Enters Try.prog 117 := ⟨_, Try.func117, rfl, by kernel_rfl⟩
theorem Try.en118 : Enters Try.prog 118 := ⟨_, Try.func118, rfl, by kernel_rfl⟩
theorem Try.en119 : Enters Try.prog 119 := ⟨_, Try.func119, rfl, by kernel_rfl⟩
theorem Try.en122 : Enters Try.prog 122 := ⟨_, Try.func122, rfl, by kernel_rfl⟩
end Go.Proofs.Ytbamdefifgkbgaa
