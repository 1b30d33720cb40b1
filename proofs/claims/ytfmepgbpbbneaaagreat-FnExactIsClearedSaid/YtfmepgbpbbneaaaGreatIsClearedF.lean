/- Is Cleared: facts of the types and functions of the translation. -/
import Derived.Test.YtfmepgbpbbneaaaGreatProg
import Derived.Test.YtfmepgbpbbneaaaGreatIsClearedT
set_option linter.unusedVariables false
set_option linter.unusedSimpArgs false
namespace Go.Proofs.YtfmepgbpbbneaaaGreat
open Go.RowKit Go.X
theorem Tryz.follows : Tryz.prog.follows .mixedOrders = true := by kernel_rfl
theorem Tryz.ty3 : tyB Tryz.prog 3 = some (1, 8, some (.int .i64 (0)), false) := by kernel_rfl
theorem Tryz.ty4 : tyB Tryz.prog 4 = some (1, 1, some (.bool (false)), false) := by kernel_rfl
theorem Tryz.ty9 : tyB Tryz.prog 9 = some (1, 16, some (.string (bs (([] : Str)))), false) := by kernel_rfl
theorem Tryz.ty22 : tyB Tryz.prog 22 = some (1, 24, some (.slice none 0 0), false) := by kernel_rfl
theorem Tryz.ty23 : tyB Tryz.prog 23 = some (1, 24, some (.slice none 0 0), false) := by kernel_rfl
theorem Tryz.ty24 : tyB Tryz.prog 24 = some (1, 24, some (.slice none 0 0), false) := by kernel_rfl
theorem Tryz.ty26 : tyB Tryz.prog 26 = some (4, 88, some (.agg #[.string (bs (([] : Str))), .slice none 0 0, .slice none 0 0, .slice none 0 0]), true) := by kernel_rfl
theorem Tryz.ty27 : tyB Tryz.prog 27 = some (1, 24, some (.slice none 0 0), false) := by kernel_rfl
theorem Tryz.ty37 : tyB Tryz.prog 37 = some (1, 24, some (.slice none 0 0), false) := by kernel_rfl
theorem Tryz.ty38 : tyB Tryz.prog 38 = some (1, 24, some (.slice none 0 0), false) := by kernel_rfl
theorem Tryz.ty40 : tyB Tryz.prog 40 = some (4, 88, some (.agg #[.string (bs (([] : Str))), .slice none 0 0, .slice none 0 0, .slice none 0 0]), true) := by kernel_rfl
theorem Tryz.ty52 : tyB Tryz.prog 52 = some (2, 24, some (.agg #[.string (bs (([] : Str))), .bool (false)]), true) := by kernel_rfl
theorem Tryz.ty54 : tyB Tryz.prog 54 = some (8, 136, some (.agg #[.string (bs (([] : Str))), .slice none 0 0, .slice none 0 0, .slice none 0 0, .string (bs (([] : Str))), .bool (false), .string (bs (([] : Str))), .bool (false)]), true) := by kernel_rfl
theorem Tryz.ty60 : tyB Tryz.prog 60 = some (2, 24, some (.agg #[.string (bs (([] : Str))), .bool (false)]), true) := by kernel_rfl
theorem Tryz.ty62 : tyB Tryz.prog 62 = some (8, 136, some (.agg #[.string (bs (([] : Str))), .slice none 0 0, .slice none 0 0, .slice none 0 0, .string (bs (([] : Str))), .bool (false), .string (bs (([] : Str))), .bool (false)]), true) := by kernel_rfl
theorem Tryz.ty93 : tyB Tryz.prog 93 = some (1, 24, some (.slice none 0 0), false) := by kernel_rfl
theorem Tryz.ty95 : tyB Tryz.prog 95 = some (3, 64, some (.agg #[.string (bs (([] : Str))), .slice none 0 0, .slice none 0 0]), true) := by kernel_rfl
theorem Tryz.ty99 : tyB Tryz.prog 99 = some (1, 24, some (.slice none 0 0), false) := by kernel_rfl
theorem Tryz.ty101 : tyB Tryz.prog 101 = some (3, 64, some (.agg #[.string (bs (([] : Str))), .slice none 0 0, .slice none 0 0]), true) := by kernel_rfl
theorem Tryz.ty104 : tyB Tryz.prog 104 = some (3, 40, some (.agg #[.string (bs (([] : Str))), .string (bs (([] : Str))), .bool (false)]), true) := by kernel_rfl
theorem Tryz.ty112 : tyB Tryz.prog 112 = some (3, 40, some (.agg #[.string (bs (([] : Str))), .string (bs (([] : Str))), .bool (false)]), true) := by kernel_rfl
theorem Tryz.ty137 : tyB Tryz.prog 137 = some (3, 32, some (.agg #[.string (bs (([] : Str))), .int .i64 (0), .int .i64 (0)]), true) := by kernel_rfl
theorem Tryz.ty158 : tyB Tryz.prog 158 = some (3, 32, some (.agg #[.string (bs (([] : Str))), .int .i64 (0), .int .i64 (0)]), true) := by kernel_rfl
theorem Tryz.fd26_0 : fieldB Tryz.prog 26 0 = some (0, 0 + 1, false) := by kernel_rfl
theorem Tryz.fd26_1 : fieldB Tryz.prog 26 1 = some (1, 0 + 1, false) := by kernel_rfl
theorem Tryz.fd26_2 : fieldB Tryz.prog 26 2 = some (2, 0 + 1, false) := by kernel_rfl
theorem Tryz.fd26_3 : fieldB Tryz.prog 26 3 = some (3, 0 + 1, false) := by kernel_rfl
theorem Tryz.fd40_0 : fieldB Tryz.prog 40 0 = some (0, 0 + 1, false) := by kernel_rfl
theorem Tryz.fd40_1 : fieldB Tryz.prog 40 1 = some (1, 0 + 1, false) := by kernel_rfl
theorem Tryz.fd40_2 : fieldB Tryz.prog 40 2 = some (2, 0 + 1, false) := by kernel_rfl
theorem Tryz.fd40_3 : fieldB Tryz.prog 40 3 = some (3, 0 + 1, false) := by kernel_rfl
theorem Tryz.fd52_0 : fieldB Tryz.prog 52 0 = some (0, 0 + 1, false) := by kernel_rfl
theorem Tryz.fd52_1 : fieldB Tryz.prog 52 1 = some (1, 0 + 1, false) := by kernel_rfl
theorem Tryz.fd54_0 : fieldB Tryz.prog 54 0 = some (0, 3 + 1, true) := by kernel_rfl
theorem Tryz.fd54_1 : fieldB Tryz.prog 54 1 = some (4, 1 + 1, true) := by kernel_rfl
theorem Tryz.fd54_2 : fieldB Tryz.prog 54 2 = some (6, 1 + 1, true) := by kernel_rfl
theorem Tryz.fd60_0 : fieldB Tryz.prog 60 0 = some (0, 0 + 1, false) := by kernel_rfl
theorem Tryz.fd60_1 : fieldB Tryz.prog 60 1 = some (1, 0 + 1, false) := by kernel_rfl
theorem Tryz.fd62_0 : fieldB Tryz.prog 62 0 = some (0, 3 + 1, true) := by kernel_rfl
theorem Tryz.fd62_1 : fieldB Tryz.prog 62 1 = some (4, 1 + 1, true) := by kernel_rfl
theorem Tryz.fd62_2 : fieldB Tryz.prog 62 2 = some (6, 1 + 1, true) := by kernel_rfl
theorem Tryz.fd95_0 : fieldB Tryz.prog 95 0 = some (0, 0 + 1, false) := by kernel_rfl
theorem Tryz.fd95_1 : fieldB Tryz.prog 95 1 = some (1, 0 + 1, false) := by kernel_rfl
theorem Tryz.fd95_2 : fieldB Tryz.prog 95 2 = some (2, 0 + 1, false) := by kernel_rfl
theorem Tryz.fd101_0 : fieldB Tryz.prog 101 0 = some (0, 0 + 1, false) := by kernel_rfl
theorem Tryz.fd101_1 : fieldB Tryz.prog 101 1 = some (1, 0 + 1, false) := by kernel_rfl
theorem Tryz.fd101_2 : fieldB Tryz.prog 101 2 = some (2, 0 + 1, false) := by kernel_rfl
theorem Tryz.fd104_0 : fieldB Tryz.prog 104 0 = some (0, 0 + 1, false) := by kernel_rfl
theorem Tryz.fd104_1 : fieldB Tryz.prog 104 1 = some (1, 0 + 1, false) := by kernel_rfl
theorem Tryz.fd104_2 : fieldB Tryz.prog 104 2 = some (2, 0 + 1, false) := by kernel_rfl
theorem Tryz.fd112_0 : fieldB Tryz.prog 112 0 = some (0, 0 + 1, false) := by kernel_rfl
theorem Tryz.fd112_1 : fieldB Tryz.prog 112 1 = some (1, 0 + 1, false) := by kernel_rfl
theorem Tryz.fd112_2 : fieldB Tryz.prog 112 2 = some (2, 0 + 1, false) := by kernel_rfl
theorem Tryz.fd137_0 : fieldB Tryz.prog 137 0 = some (0, 0 + 1, false) := by kernel_rfl
theorem Tryz.fd137_1 : fieldB Tryz.prog 137 1 = some (1, 0 + 1, false) := by kernel_rfl
theorem Tryz.fd137_2 : fieldB Tryz.prog 137 2 = some (2, 0 + 1, false) := by kernel_rfl
theorem Tryz.fd158_0 : fieldB Tryz.prog 158 0 = some (0, 0 + 1, false) := by kernel_rfl
theorem Tryz.fd158_1 : fieldB Tryz.prog 158 1 = some (1, 0 + 1, false) := by kernel_rfl
theorem Tryz.fd158_2 : fieldB Tryz.prog 158 2 = some (2, 0 + 1, false) := by kernel_rfl
theorem Tryz.un4 : Tryz.prog.underlying 4 = some (.bool) := by kernel_rfl
theorem Tryz.un5 : Tryz.prog.underlying 5 = some (.int .u8) := by kernel_rfl
theorem Tryz.un9 : Tryz.prog.underlying 9 = some (.string) := by kernel_rfl
theorem Tryz.un22 : Tryz.prog.underlying 22 = some (.slice 101) := by kernel_rfl
theorem Tryz.un23 : Tryz.prog.underlying 23 = some (.slice 3) := by kernel_rfl
theorem Tryz.un24 : Tryz.prog.underlying 24 = some (.slice 104) := by kernel_rfl
theorem Tryz.un27 : Tryz.prog.underlying 27 = some (.slice 9) := by kernel_rfl
theorem Tryz.un37 : Tryz.prog.underlying 37 = some (.slice 95) := by kernel_rfl
theorem Tryz.un38 : Tryz.prog.underlying 38 = some (.slice 112) := by kernel_rfl
theorem Tryz.un93 : Tryz.prog.underlying 93 = some (.slice 137) := by kernel_rfl
theorem Tryz.un99 : Tryz.prog.underlying 99 = some (.slice 158) := by kernel_rfl
theorem Tryz.un181 : Tryz.prog.underlying 181 = some (.int .u32) := by kernel_rfl
theorem Tryz.ae137 {x y : DIdx} : AggEq Tryz.prog 137 (e_Idx x) (e_Idx y) ((x.Name == y.Name) && (decide (x.Col = y.Col) && decide (x.Stage = y.Stage))) := by
  refine ⟨by kernel_rfl, fun w => ?_⟩
  have u3 := Tryz.underlying3; have a3 := Tryz.isAgg3; have z3 := Tryz.sizeOf3
  have u9 := Tryz.underlying9; have a9 := Tryz.isAgg9; have z9 := Tryz.sizeOf9
  rw [run_equalIn_struct w 9999 137 _ _ (by kernel_rfl) (by kernel_rfl)]
  simp only [Program.fieldsOf, Tryz.underlying137, e_Idx, List.toArray]
  go_simp
  simp only [bs_toList]
  by_cases h0 : x.Name = y.Name <;> by_cases h1 : x.Col = y.Col <;> by_cases h2 : x.Stage = y.Stage <;> simp [h0, h1, h2]
theorem Tryz.ex159 : Ext Tryz.prog 159 Extern.BytealgIndexByte.indexByte := ⟨_, Tryz.func159, by kernel_rfl, by kernel_rfl, by kernel_rfl, by kernel_rfl⟩
theorem Tryz.en6 : Enters Tryz.prog 6 := ⟨_, Tryz.func6, rfl, by kernel_rfl⟩
theorem Tryz.en9 : Enters Tryz.prog 9 := ⟨_, Tryz.func9, rfl, by kernel_rfl⟩
theorem Tryz.en12 : Enters Tryz.prog 12 := ⟨_, Tryz.func12, rfl, by kernel_rfl⟩
theorem Tryz.en14 : Enters Tryz.prog 14 := ⟨_, Tryz.func14, rfl, by kernel_rfl⟩
theorem Tryz.en17 : Enters Tryz.prog 17 := ⟨_, Tryz.func17, rfl, by kernel_rfl⟩
theorem Tryz.en20 : Enters Tryz.prog 20 := ⟨_, Tryz.func20, rfl, by kernel_rfl⟩
theorem Tryz.en22 : Enters Tryz.prog 22 := ⟨_, Tryz.func22, rfl, by kernel_rfl⟩
theorem Tryz.en23 : Enters Tryz.prog 23 := ⟨_, Tryz.func23, rfl, by kernel_rfl⟩
theorem Tryz.en24 : Enters Tryz.prog 24 := ⟨_, Tryz.func24, rfl, by kernel_rfl⟩
theorem Tryz.en25 : Enters Tryz.prog 25 := ⟨_, Tryz.func25, rfl, by kernel_rfl⟩
theorem Tryz.en26 : Enters Tryz.prog 26 := ⟨_, Tryz.func26, rfl, by kernel_rfl⟩
theorem Tryz.en28 : Enters Tryz.prog 28 := ⟨_, Tryz.func28, rfl, by kernel_rfl⟩
theorem Tryz.en30 : Enters Tryz.prog 30 := ⟨_, Tryz.func30, rfl, by kernel_rfl⟩
theorem Tryz.en31 : Enters Tryz.prog 31 := ⟨_, Tryz.func31, rfl, by kernel_rfl⟩
theorem Tryz.en32 : Enters Tryz.prog 32 := ⟨_, Tryz.func32, rfl, by kernel_rfl⟩
theorem Tryz.en34 : Enters Tryz.prog 34 := ⟨_, Tryz.func34, rfl, by kernel_rfl⟩
theorem Tryz.en36 : Enters Tryz.prog 36 := ⟨_, Tryz.func36, rfl, by kernel_rfl⟩
theorem Tryz.en37 : Enters Tryz.prog 37 := ⟨_, Tryz.func37, rfl, by kernel_rfl⟩
theorem Tryz.en38 : Enters Tryz.prog 38 := ⟨_, Tryz.func38, rfl, by kernel_rfl⟩
theorem Tryz.en40 : Enters Tryz.prog 40 := ⟨_, Tryz.func40, rfl, by kernel_rfl⟩
theorem Tryz.en41 : Enters Tryz.prog 41 := ⟨_, Tryz.func41, rfl, by kernel_rfl⟩
theorem Tryz.en43 : Enters Tryz.prog 43 := ⟨_, Tryz.func43, rfl, by kernel_rfl⟩
theorem Tryz.en44 : Enters Tryz.prog 44 := ⟨_, Tryz.func44, rfl, by kernel_rfl⟩
theorem Tryz.en46 : Enters Tryz.prog 46 := ⟨_, Tryz.func46, rfl, by kernel_rfl⟩
theorem Tryz.en47 : Enters Tryz.prog 47 := ⟨_, Tryz.func47, rfl, by kernel_rfl⟩
theorem Tryz.en48 : Enters Tryz.prog 48 := ⟨_, Tryz.func48, rfl, by kernel_rfl⟩
theorem Tryz.en49 : Enters Tryz.prog 49 := ⟨_, Tryz.func49, rfl, by kernel_rfl⟩
theorem Tryz.en50 : Enters Tryz.prog 50 := ⟨_, Tryz.func50, rfl, by kernel_rfl⟩
theorem Tryz.en51 : Enters Tryz.prog 51 := ⟨_, Tryz.func51, rfl, by kernel_rfl⟩
theorem Tryz.en52 : Enters Tryz.prog 52 := ⟨_, Tryz.func52, rfl, by kernel_rfl⟩
theorem Tryz.en54 : Enters Tryz.prog 54 := ⟨_, Tryz.func54, rfl, by kernel_rfl⟩
theorem Tryz.en55 : Enters Tryz.prog 55 := ⟨_, Tryz.func55, rfl, by kernel_rfl⟩
theorem Tryz.en56 : Enters Tryz.prog 56 := ⟨_, Tryz.func56, rfl, by kernel_rfl⟩
theorem Tryz.en57 : Enters Tryz.prog 57 := ⟨_, Tryz.func57, rfl, by kernel_rfl⟩
theorem Tryz.en60 : Enters Tryz.prog 60 := ⟨_, Tryz.func60, rfl, by kernel_rfl⟩
theorem Tryz.en61 : Enters Tryz.prog 61 := ⟨_, Tryz.func61, rfl, by kernel_rfl⟩
theorem Tryz.en63 : Enters Tryz.prog 63 := ⟨_, Tryz.func63, rfl, by kernel_rfl⟩
theorem Tryz.en64 : Enters Tryz.prog 64 := ⟨_, Tryz.func64, rfl, by kernel_rfl⟩
theorem Tryz.en65 : Enters Tryz.prog 65 := ⟨_, Tryz.func65, rfl, by kernel_rfl⟩
theorem Tryz.en66 : Enters Tryz.prog 66 := ⟨_, Tryz.func66, rfl, by kernel_rfl⟩
theorem Tryz.en67 : Enters Tryz.prog 67 := ⟨_, Tryz.func67, rfl, by kernel_rfl⟩
theorem Tryz.en68 : Enters Tryz.prog 68 := ⟨_, Tryz.func68, rfl, by kernel_rfl⟩
theorem Tryz.en69 : Enters Tryz.prog 69 := ⟨_, Tryz.func69, rfl, by kernel_rfl⟩
theorem Tryz.en70 : Enters Tryz.prog 70 := ⟨_, Tryz.func70, rfl, by kernel_rfl⟩
theorem Tryz.en71 : Enters Tryz.prog 71 := ⟨_, Tryz.func71, rfl, by kernel_rfl⟩
theorem Tryz.en72 : Enters Tryz.prog 72 := ⟨_, Tryz.func72, rfl, by kernel_rfl⟩
theorem Tryz.en73 : Enters Tryz.prog 73 := ⟨_, Tryz.func73, rfl, by kernel_rfl⟩
theorem Tryz.en77 : Enters Tryz.prog 77 := ⟨_, Tryz.func77, rfl, by kernel_rfl⟩
theorem Tryz.en78 : Enters Tryz.prog 78 := ⟨_, Tryz.func78, rfl, by kernel_rfl⟩
theorem Tryz.en80 : Enters Tryz.prog 80 := ⟨_, Tryz.func80, rfl, by kernel_rfl⟩
theorem Tryz.en82 : Enters Tryz.prog 82 := ⟨_, Tryz.func82, rfl, by kernel_rfl⟩
theorem Tryz.en83 : Enters Tryz.prog 83 := ⟨_, Tryz.func83, rfl, by kernel_rfl⟩
theorem Tryz.en84 : Enters Tryz.prog 84 := ⟨_, Tryz.func84, rfl, by kernel_rfl⟩
theorem Tryz.en85 : Enters Tryz.prog 85 := ⟨_, Tryz.func85, rfl, by kernel_rfl⟩
theorem Tryz.en86 : Enters Tryz.prog 86 := ⟨_, Tryz.func86, rfl, by kernel_rfl⟩
theorem Tryz.en87 : Enters Tryz.prog 87 := ⟨_, Tryz.func87, rfl, by kernel_rfl⟩
theorem Tryz.en88 : Enters Tryz.prog 88 := ⟨_, Tryz.func88, rfl, by kernel_rfl⟩
theorem Tryz.en89 : Enters Tryz.prog 89 := ⟨_, Tryz.func89, rfl, by kernel_rfl⟩
theorem Tryz.en90 : Enters Tryz.prog 90 := ⟨_, Tryz.func90, rfl, by kernel_rfl⟩
theorem Tryz.en91 : Enters Tryz.prog 91 := ⟨_, Tryz.func91, rfl, by kernel_rfl⟩
theorem Tryz.en92 : Enters Tryz.prog 92 := ⟨_, Tryz.func92, rfl, by kernel_rfl⟩
theorem Tryz.en93 : Enters Tryz.prog 93 := ⟨_, Tryz.func93, rfl, by kernel_rfl⟩
theorem Tryz.en95 : Enters Tryz.prog 95 := ⟨_, Tryz.func95, rfl, by kernel_rfl⟩
theorem Tryz.en96 : Enters Tryz.prog 96 := ⟨_, Tryz.func96, rfl, by kernel_rfl⟩
theorem Tryz.en97 : Enters Tryz.prog 97 := ⟨_, Tryz.func97, rfl, by kernel_rfl⟩
theorem Tryz.en98 : Enters Tryz.prog 98 := ⟨_, Tryz.func98, rfl, by kernel_rfl⟩
theorem Tryz.en99 : Enters Tryz.prog 99 := ⟨_, Tryz.func99, rfl, by kernel_rfl⟩
theorem Tryz.en100 : Enters Tryz.prog 100 := ⟨_, Tryz.func100, rfl, by kernel_rfl⟩
theorem Tryz.en101 : Enters Tryz.prog 101 := ⟨_, Tryz.func101, rfl, by kernel_rfl⟩
theorem Tryz.en102 : Enters Tryz.prog 102 := ⟨_, Tryz.func102, rfl, by kernel_rfl⟩
theorem Tryz.en103 : Enters Tryz.prog 103 := ⟨_, Tryz.func103, rfl, by kernel_rfl⟩
theorem Tryz.en104 : Enters Tryz.prog 104 := ⟨_, Tryz.func104, rfl, by kernel_rfl⟩
theorem Tryz.en105 : Enters Tryz.prog 105 := ⟨_, Tryz.func105, rfl, by kernel_rfl⟩
theorem Tryz.en106 : Enters Tryz.prog 106 := ⟨_, Tryz.func106, rfl, by kernel_rfl⟩
theorem Tryz.en107 : Enters Tryz.prog 107 := ⟨_, Tryz.func107, rfl, by kernel_rfl⟩
theorem Tryz.en108 : Enters Tryz.prog 108 := ⟨_, Tryz.func108, rfl, by kernel_rfl⟩
theorem Tryz.en110 : Enters Tryz.prog 110 := ⟨_, Tryz.func110, rfl, by kernel_rfl⟩
theorem Tryz.en111 : Enters Tryz.prog 111 := ⟨_, Tryz.func111, rfl, by kernel_rfl⟩
theorem Tryz.en112 : Enters Tryz.prog 112 := ⟨_, Tryz.func112, rfl, by kernel_rfl⟩
theorem Tryz.en113 : Enters Tryz.prog 113 := ⟨_, Tryz.func113, rfl, by kernel_rfl⟩
theorem Tryz.en114 : Enters Tryz.prog 114 := ⟨_, Tryz.func114, rfl, by kernel_rfl⟩
theorem Tryz.en115 : Enters Tryz.prog 115 := ⟨_, Tryz.func115, rfl, by kernel_rfl⟩
theorem Tryz.en116 : Enters Tryz.prog 116 := ⟨_, Tryz.func116, rfl, by kernel_rfl⟩
theorem Tryz.en117 : Enters Tryz.prog 117 := ⟨_, Tryz.func117, rfl, by kernel_rfl⟩
theorem Tryz.en118 : Enters Tryz.prog 118 := ⟨_, Tryz.func118, rfl, by kernel_rfl⟩
theorem Tryz.en119 : Enters Tryz.prog 119 := ⟨_, Tryz.func119, rfl, by kernel_rfl⟩
theorem Tryz.en120 : Enters Tryz.prog 120 := ⟨_, Tryz.func120, rfl, by kernel_rfl⟩
theorem Tryz.en121 : Enters Tryz.prog 121 := ⟨_, Tryz.func121, rfl, by kernel_rfl⟩
theorem Tryz.en122 : Enters Tryz.prog 122 := ⟨_, Tryz.func122, rfl, by kernel_rfl⟩
theorem Tryz.en123 : Enters Tryz.prog 123 := ⟨_, Tryz.func123, rfl, by kernel_rfl⟩
theorem Tryz.en124 : Enters Tryz.prog 124 := ⟨_, Tryz.func124, rfl, by kernel_rfl⟩
theorem Tryz.en125 : Enters Tryz.prog 125 := ⟨_, Tryz.func125, rfl, by kernel_rfl⟩
theorem Tryz.en126 : Enters Tryz.prog 126 := ⟨_, Tryz.func126, rfl, by kernel_rfl⟩
theorem Tryz.en127 : Enters Tryz.prog 127 := ⟨_, Tryz.func127, rfl, by kernel_rfl⟩
theorem Tryz.en128 : Enters Tryz.prog 128 := ⟨_, Tryz.func128, rfl, by kernel_rfl⟩
theorem Tryz.en129 : Enters Tryz.prog 129 := ⟨_, Tryz.func129, rfl, by kernel_rfl⟩
theorem Tryz.en130 : Enters Tryz.prog 130 := ⟨_, Tryz.func130, rfl, by kernel_rfl⟩
theorem Tryz.en131 : Enters Tryz.prog 131 := ⟨_, Tryz.func131, rfl, by kernel_rfl⟩
theorem Tryz.en132 : Enters Tryz.prog 132 := ⟨_, Tryz.func132, rfl, by kernel_rfl⟩
theorem Tryz.en133 : Enters Tryz.prog 133 := ⟨_, Tryz.func133, rfl, by kernel_rfl⟩
theorem Tryz.en134 : Enters Tryz.prog 134 := ⟨_, Tryz.func134, rfl, by kernel_rfl⟩
theorem Tryz.en135 : Enters Tryz.prog 135 := ⟨_, Tryz.func135, rfl, by kernel_rfl⟩
theorem Tryz.en136 : Enters Tryz.prog 136 := ⟨_, Tryz.func136, rfl, by kernel_rfl⟩
theorem Tryz.en137 : Enters Tryz.prog 137 := ⟨_, Tryz.func137, rfl, by kernel_rfl⟩
theorem Tryz.en138 : Enters Tryz.prog 138 := ⟨_, Tryz.func138, rfl, by kernel_rfl⟩
theorem Tryz.en139 : Enters Tryz.prog 139 := ⟨_, Tryz.func139, rfl, by kernel_rfl⟩
theorem Tryz.en141 : Enters Tryz.prog 141 := ⟨_, Tryz.func141, rfl, by kernel_rfl⟩
theorem Tryz.en142 : Enters Tryz.prog 142 := ⟨_, Tryz.func142, rfl, by kernel_rfl⟩
theorem Tryz.en143 : Enters Tryz.prog 143 := ⟨_, Tryz.func143, rfl, by kernel_rfl⟩
theorem Tryz.en144 : Enters Tryz.prog 144 := ⟨_, Tryz.func144, rfl, by kernel_rfl⟩
theorem Tryz.en145 : Enters Tryz.prog 145 := ⟨_, Tryz.func145, rfl, by kernel_rfl⟩
theorem Tryz.en146 : Enters Tryz.prog 146 := ⟨_, Tryz.func146, rfl, by kernel_rfl⟩
theorem Tryz.en147 : Enters Tryz.prog 147 := ⟨_, Tryz.func147, rfl, by kernel_rfl⟩
theorem Tryz.en148 : Enters Tryz.prog 148 := ⟨_, Tryz.func148, rfl, by kernel_rfl⟩
theorem Tryz.en149 : Enters Tryz.prog 149 := ⟨_, Tryz.func149, rfl, by kernel_rfl⟩
theorem Tryz.en150 : Enters Tryz.prog 150 := ⟨_, Tryz.func150, rfl, by kernel_rfl⟩
theorem Tryz.en151 : Enters Tryz.prog 151 := ⟨_, Tryz.func151, rfl, by kernel_rfl⟩
theorem Tryz.en152 : Enters Tryz.prog 152 := ⟨_, Tryz.func152, rfl, by kernel_rfl⟩
theorem Tryz.en153 : Enters Tryz.prog 153 := ⟨_, Tryz.func153, rfl, by kernel_rfl⟩
theorem Tryz.en154 : Enters Tryz.prog 154 := ⟨_, Tryz.func154, rfl, by kernel_rfl⟩
theorem Tryz.en155 : Enters Tryz.prog 155 := ⟨_, Tryz.func155, rfl, by kernel_rfl⟩
end Go.Proofs.YtfmepgbpbbneaaaGreat
