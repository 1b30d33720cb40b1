/- Copy At: facts of the types and functions of the translation. -/
import Derived.Test.YtbglfhmnjbgciaaProg
import Derived.Test.YtbglfhmnjbgciaaCopyAtT
set_option linter.unusedVariables false
set_option linter.unusedSimpArgs false
namespace Go.Proofs.Ytbglfhmnjbgciaa
open Go.RowKit Go.X
theorem Try.follows : Try.prog.follows .mixedOrders = true := by kernel_rfl
theorem Try.ty3 : tyB Try.prog 3 = some (1, 8, some (.int .i64 (0)), false) := by kernel_rfl
theorem Try.ty4 : tyB Try.prog 4 = some (1, 1, some (.bool (false)), false) := by kernel_rfl
theorem Try.ty5 : tyB Try.prog 5 = some (1, 1, some (.int .u8 (0)), false) := by kernel_rfl
theorem Try.ty9 : tyB Try.prog 9 = some (1, 16, some (.string (bs (([] : Str)))), false) := by kernel_rfl
theorem Try.ty24 : tyB Try.prog 24 = some (1, 24, some (.slice none 0 0), false) := by kernel_rfl
theorem Try.ty26 : tyB Try.prog 26 = some (2, 32, some (.agg #[.int .i64 (0), .slice none 0 0]), true) := by kernel_rfl
theorem Try.ty37 : tyB Try.prog 37 = some (1, 24, some (.slice none 0 0), false) := by kernel_rfl
theorem Try.ty39 : tyB Try.prog 39 = some (2, 40, some (.agg #[.string (bs (([] : Str))), .slice none 0 0]), true) := by kernel_rfl
theorem Try.ty42 : tyB Try.prog 42 = some (1, 24, some (.slice none 0 0), false) := by kernel_rfl
theorem Try.ty44 : tyB Try.prog 44 = some (2, 40, some (.agg #[.string (bs (([] : Str))), .slice none 0 0]), true) := by kernel_rfl
theorem Try.ty63 : tyB Try.prog 63 = some (3, 40, some (.agg #[.string (bs (([] : Str))), .string (bs (([] : Str))), .bool (false)]), true) := by kernel_rfl
theorem Try.ty68 : tyB Try.prog 68 = some (3, 32, some (.agg #[.int .i64 (0), .string (bs (([] : Str))), .bool (false)]), true) := by kernel_rfl
theorem Try.ty70 : tyB Try.prog 70 = some (3, 32, some (.agg #[.int .i64 (0), .string (bs (([] : Str))), .bool (false)]), true) := by kernel_rfl
theorem Try.fd26_0 : fieldB Try.prog 26 0 = some (0, 0 + 1, false) := by kernel_rfl
theorem Try.fd26_1 : fieldB Try.prog 26 1 = some (1, 0 + 1, false) := by kernel_rfl
theorem Try.fd39_0 : fieldB Try.prog 39 0 = some (0, 0 + 1, false) := by kernel_rfl
theorem Try.fd39_1 : fieldB Try.prog 39 1 = some (1, 0 + 1, false) := by kernel_rfl
theorem Try.fd44_0 : fieldB Try.prog 44 0 = some (0, 0 + 1, false) := by kernel_rfl
theorem Try.fd44_1 : fieldB Try.prog 44 1 = some (1, 0 + 1, false) := by kernel_rfl
theorem Try.fd63_0 : fieldB Try.prog 63 0 = some (0, 0 + 1, false) := by kernel_rfl
theorem Try.fd63_1 : fieldB Try.prog 63 1 = some (1, 0 + 1, false) := by kernel_rfl
theorem Try.fd63_2 : fieldB Try.prog 63 2 = some (2, 0 + 1, false) := by kernel_rfl
theorem Try.fd68_0 : fieldB Try.prog 68 0 = some (0, 0 + 1, false) := by kernel_rfl
theorem Try.fd68_1 : fieldB Try.prog 68 1 = some (1, 0 + 1, false) := by kernel_rfl
theorem Try.fd68_2 : fieldB Try.prog 68 2 = some (2, 0 + 1, false) := by kernel_rfl
theorem Try.fd70_0 : fieldB Try.prog 70 0 = some (0, 0 + 1, false) := by kernel_rfl
theorem Try.fd70_1 : fieldB Try.prog 70 1 = some (1, 0 + 1, false) := by kernel_rfl
theorem Try.fd70_2 : fieldB Try.prog 70 2 = some (2, 0 + 1, false) := by kernel_rfl
theorem Try.un3 : Try.prog.underlying 3 = some (.int .i64) := by kernel_rfl
theorem Try.un4 : Try.prog.underlying 4 = some (.bool) := by kernel_rfl
theorem Try.un5 : Try.prog.underlying 5 = some (.int .u8) := by kernel_rfl
theorem Try.un9 : Try.prog.underlying 9 = some (.string) := by kernel_rfl
theorem Try.un22 : Try.prog.underlying 22 = some (.slice 39) := by kernel_rfl
theorem Try.un24 : Try.prog.underlying 24 = some (.slice 63) := by kernel_rfl
theorem Try.un29 : Try.prog.underlying 29 = some (.slice 44) := by kernel_rfl
theorem Try.un37 : Try.prog.underlying 37 = some (.slice 70) := by kernel_rfl
theorem Try.un42 : Try.prog.underlying 42 = some (.slice 68) := by kernel_rfl
theorem Try.un56 : Try.prog.underlying 56 = some (.slice 9) := by kernel_rfl
theorem Try.un66 : Try.prog.underlying 66 = some (.slice 5) := by kernel_rfl
theorem Try.ex57 : Ext Try.prog 57 Extern.BytealgIndexByte.indexByte := ⟨_, Try.func57, by kernel_rfl, by kernel_rfl, by kernel_rfl, by kernel_rfl⟩
theorem Try.en4 : Enters Try.prog 4 := ⟨_, Try.func4, rfl, by kernel_rfl⟩
theorem Try.en5 : Enters Try.prog 5 := ⟨_, Try.func5, rfl, by kernel_rfl⟩
theorem Try.en6 : Enters Try.prog 6 := ⟨_, Try.func6, rfl, by kernel_rfl⟩
theorem Try.en7 : Enters Try.prog 7 := ⟨_, Try.func7, rfl, by kernel_rfl⟩
theorem Try.en8 : Enters Try.prog 8 := ⟨_, Try.func8, rfl, by kernel_rfl⟩
theorem Try.en9 : Enters Try.prog 9 := ⟨_, Try.func9, rfl, by kernel_rfl⟩
theorem Try.en10 : Enters Try.prog 10 := ⟨_, Try.func10, rfl, by kernel_rfl⟩
theorem Try.en11 : Enters Try.prog 11 := ⟨_, Try.func11, rfl, by kernel_rfl⟩
theorem Try.en12 : Enters Try.prog 12 := ⟨_, Try.func12, rfl, by kernel_rfl⟩
theorem Try.en13 : Enters Try.prog 13 := ⟨_, Try.func13, rfl, by kernel_rfl⟩
theorem Try.en14 : Enters Try.prog 14 := ⟨_, Try.func14, rfl, by kernel_rfl⟩
theorem Try.en15 : Enters Try.prog 15 := ⟨_, Try.func15, rfl, by kernel_rfl⟩
theorem Try.en16 : Enters Try.prog 16 := ⟨_, Try.func16, rfl, by kernel_rfl⟩
theorem Try.en17 : Enters Try.prog 17 := ⟨_, Try.func17, rfl, by kernel_rfl⟩
theorem Try.en18 : Enters Try.prog 18 := ⟨_, Try.func18, rfl, by kernel_rfl⟩
theorem Try.en19 : Enters Try.prog 19 := ⟨_, Try.func19, rfl, by kernel_rfl⟩
theorem Try.en20 : Enters Try.prog 20 := ⟨_, Try.func20, rfl, by kernel_rfl⟩
theorem Try.en21 : Enters Try.prog 21 := ⟨_, Try.func21, rfl, by kernel_rfl⟩
theorem Try.en22 : Enters Try.prog 22 := ⟨_, Try.func22, rfl, by kernel_rfl⟩
theorem Try.en23 : Enters Try.prog 23 := ⟨_, Try.func23, rfl, by kernel_rfl⟩
theorem Try.en24 : Enters Try.prog 24 := ⟨_, Try.func24, rfl, by kernel_rfl⟩
theorem Try.en25 : Enters Try.prog 25 := ⟨_, Try.func25, rfl, by kernel_rfl⟩
theorem Try.en26 : Enters Try.prog 26 := ⟨_, Try.func26, rfl, by kernel_rfl⟩
theorem Try.en27 : Enters Try.prog 27 := ⟨_, Try.func27, rfl, by kernel_rfl⟩
theorem Try.en28 : Enters Try.prog 28 := ⟨_, Try.func28, rfl, by kernel_rfl⟩
theorem Try.en29 : Enters Try.prog 29 := ⟨_, Try.func29, rfl, by kernel_rfl⟩
theorem Try.en30 : Enters Try.prog 30 := ⟨_, Try.func30, rfl, by kernel_rfl⟩
theorem Try.en31 : Enters Try.prog 31 := ⟨_, Try.func31, rfl, by kernel_rfl⟩
theorem Try.en32 : Enters Try.prog 32 := ⟨_, Try.func32, rfl, by kernel_rfl⟩
theorem Try.en33 : Enters Try.prog 33 := ⟨_, Try.func33, rfl, by kernel_rfl⟩
theorem Try.en34 : Enters Try.prog 34 := ⟨_, Try.func34, rfl, by kernel_rfl⟩
theorem Try.en35 : Enters Try.prog 35 := ⟨_, Try.func35, rfl, by kernel_rfl⟩
theorem Try.en36 : Enters Try.prog 36 := ⟨_, Try.func36, rfl, by kernel_rfl⟩
theorem Try.en37 : Enters Try.prog 37 := ⟨_, Try.func37, rfl, by kernel_rfl⟩
theorem Try.en38 : Enters Try.prog 38 := ⟨_, Try.func38, rfl, by kernel_rfl⟩
theorem Try.en39 : Enters Try.prog 39 := ⟨_, Try.func39, rfl, by kernel_rfl⟩
theorem Try.en40 : Enters Try.prog 40 := ⟨_, Try.func40, rfl, by kernel_rfl⟩
theorem Try.en41 : Enters Try.prog 41 := ⟨_, Try.func41, rfl, by kernel_rfl⟩
theorem Try.en42 : Enters Try.prog 42 := ⟨_, Try.func42, rfl, by kernel_rfl⟩
theorem Try.en43 : Enters Try.prog 43 := ⟨_, Try.func43, rfl, by kernel_rfl⟩
theorem Try.en45 : Enters Try.prog 45 := ⟨_, Try.func45, rfl, by kernel_rfl⟩
theorem Try.en46 : Enters Try.prog 46 := ⟨_, Try.func46, rfl, by kernel_rfl⟩
theorem Try.en47 : Enters Try.prog 47 := ⟨_, Try.func47, rfl, by kernel_rfl⟩
theorem Try.en48 : Enters Try.prog 48 := ⟨_, Try.func48, rfl, by kernel_rfl⟩
theorem Try.en49 : Enters Try.prog 49 := ⟨_, Try.func49, rfl, by kernel_rfl⟩
theorem Try.en50 : Enters Try.prog 50 := ⟨_, Try.func50, rfl, by kernel_rfl⟩
theorem Try.en52 : Enters Try.prog 52 := ⟨_, Try.func52, rfl, by kernel_rfl⟩
theorem Try.en53 : Enters Try.prog 53 := ⟨_, Try.func53, rfl, by kernel_rfl⟩
theorem Try.en54 : Enters Try.prog 54 := ⟨_, Try.func54, rfl, by kernel_rfl⟩
theorem Try.en55 : Enters Try.prog 55 := ⟨_, Try.func55, rfl, by kernel_rfl⟩
theorem Try.en56 : Enters Try.prog 56 := ⟨_, Try.func56, rfl, by kernel_rfl⟩
end Go.Proofs.Ytbglfhmnjbgciaa
