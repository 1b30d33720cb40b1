/- Read Idx Key: facts of the types and functions of the translation. -/
import Derived.Test.YtmlfbjlkccnpmaaProg
import Derived.Test.YtmlfbjlkccnpmaaReadIdxKeyT
set_option linter.unusedVariables false
set_option linter.unusedSimpArgs false
namespace Go.Proofs.Ytmlfbjlkccnpmaa
open Go.RowKit Go.X
theorem Try.follows : Try.prog.follows .mixedOrders = true := by kernel_rfl
theorem Try.ty3 : tyB Try.prog 3 = some (1, 8, some (.int .i64 (0)), false) := by kernel_rfl
theorem Try.ty9 : tyB Try.prog 9 = some (1, 16, some (.string (bs (([] : Str)))), false) := by kernel_rfl
theorem Try.ty22 : tyB Try.prog 22 = some (1, 24, some (.slice none 0 0), false) := by kernel_rfl
theorem Try.ty23 : tyB Try.prog 23 = some (1, 24, some (.slice none 0 0), false) := by kernel_rfl
theorem Try.ty25 : tyB Try.prog 25 = some (3, 64, some (.agg #[.string (bs (([] : Str))), .slice none 0 0, .slice none 0 0]), true) := by kernel_rfl
theorem Try.ty33 : tyB Try.prog 33 = some (1, 24, some (.slice none 0 0), false) := by kernel_rfl
theorem Try.ty35 : tyB Try.prog 35 = some (3, 64, some (.agg #[.string (bs (([] : Str))), .slice none 0 0, .slice none 0 0]), true) := by kernel_rfl
theorem Try.ty132 : tyB Try.prog 132 = some (3, 32, some (.agg #[.string (bs (([] : Str))), .int .i64 (0), .int .i64 (0)]), true) := by kernel_rfl
theorem Try.ty177 : tyB Try.prog 177 = some (3, 32, some (.agg #[.string (bs (([] : Str))), .int .i64 (0), .int .i64 (0)]), true) := by kernel_rfl
theorem Try.fd25_0 : fieldB Try.prog 25 0 = some (0, 0 + 1, false) := by kernel_rfl
theorem Try.fd25_1 : fieldB Try.prog 25 1 = some (1, 0 + 1, false) := by kernel_rfl
theorem Try.fd25_2 : fieldB Try.prog 25 2 = some (2, 0 + 1, false) := by kernel_rfl
theorem Try.fd35_0 : fieldB Try.prog 35 0 = some (0, 0 + 1, false) := by kernel_rfl
theorem Try.fd35_1 : fieldB Try.prog 35 1 = some (1, 0 + 1, false) := by kernel_rfl
theorem Try.fd35_2 : fieldB Try.prog 35 2 = some (2, 0 + 1, false) := by kernel_rfl
theorem Try.fd132_0 : fieldB Try.prog 132 0 = some (0, 0 + 1, false) := by kernel_rfl
theorem Try.fd132_1 : fieldB Try.prog 132 1 = some (1, 0 + 1, false) := by kernel_rfl
theorem Try.fd132_2 : fieldB Try.prog 132 2 = some (2, 0 + 1, false) := by kernel_rfl
theorem Try.fd177_0 : fieldB Try.prog 177 0 = some (0, 0 + 1, false) := by kernel_rfl
theorem Try.fd177_1 : fieldB Try.prog 177 1 = some (1, 0 + 1, false) := by kernel_rfl
theorem Try.fd177_2 : fieldB Try.prog 177 2 = some (2, 0 + 1, false) := by kernel_rfl
theorem Try.un4 : Try.prog.underlying 4 = some (.bool) := by kernel_rfl
theorem Try.un5 : Try.prog.underlying 5 = some (.int .u8) := by kernel_rfl
theorem Try.un9 : Try.prog.underlying 9 = some (.string) := by kernel_rfl
theorem Try.un22 : Try.prog.underlying 22 = some (.slice 9) := by kernel_rfl
theorem Try.un23 : Try.prog.underlying 23 = some (.slice 177) := by kernel_rfl
theorem Try.un33 : Try.prog.underlying 33 = some (.slice 132) := by kernel_rfl
theorem Try.un226 : Try.prog.underlying 226 = some (.int .u32) := by kernel_rfl
theorem Try.ex228 : Ext Try.prog 228 Extern.BytealgIndexByte.indexByte := ⟨_, Try.func228, by kernel_rfl, by kernel_rfl, by kernel_rfl, by kernel_rfl⟩
theorem Try.en14 : Enters Try.prog 14 := ⟨_, Try.func14, rfl, by kernel_rfl⟩
theorem Try.en17 : Enters Try.prog 17 := ⟨_, Try.func17, rfl, by kernel_rfl⟩
theorem Try.en20 : Enters Try.prog 20 := ⟨_, Try.func20, rfl, by kernel_rfl⟩
theorem Try.en59 : Enters Try.prog 59 := ⟨_, Try.func59, rfl, by kernel_rfl⟩
theorem Try.en60 : Enters Try.prog 60 := ⟨_, Try.func60, rfl, by kernel_rfl⟩
theorem Try.en66 : Enters Try.prog 66 := ⟨_, Try.func66, rfl, by kernel_rfl⟩
theorem Try.en67 : Enters Try.prog 67 := ⟨_, Try.func67, rfl, by kernel_rfl⟩
theorem Try.en68 : Enters Try.prog 68 := ⟨_, Try.func68, rfl, by kernel_rfl⟩
theorem Try.en70 : Enters Try.prog 70 := ⟨_, Try.func70, rfl, by kernel_rfl⟩
theorem Try.en71 : Enters Try.prog 71 := ⟨_, Try.func71, rfl, by kernel_rfl⟩
theorem Try.en72 : Enters Try.prog 72 := ⟨_, Try.func72, rfl, by kernel_rfl⟩
theorem Try.en74 : Enters Try.prog 74 := ⟨_, Try.func74, rfl, by kernel_rfl⟩
theorem Try.en75 : Enters Try.prog 75 := ⟨_, Try.func75, rfl, by kernel_rfl⟩
theorem Try.en86 : Enters Try.prog 86 := ⟨_, Try.func86, rfl, by kernel_rfl⟩
theorem Try.en90 : Enters Try.prog 90 := ⟨_, Try.func90, rfl, by kernel_rfl⟩
theorem Try.en108 : Enters Try.prog 108 := ⟨_, Try.func108, rfl, by kernel_rfl⟩
theorem Try.en119 : Enters Try.prog 119 := ⟨_, Try.func119, rfl, by kernel_rfl⟩
theorem Try.en120 : Enters Try.prog 120 := ⟨_, Try.func120, rfl, by kernel_rfl⟩
theorem Try.en124 : Enters Try.prog 124 := ⟨_, Try.func124, rfl, by kernel_rfl⟩
theorem Try.en129 : Enters Try.prog 129 := ⟨_, Try.func129, rfl, by kernel_rfl⟩
theorem Try.en138 : Enters Try.prog 138 := ⟨_, Try.func138, rfl, by kernel_rfl⟩
theorem Try.en139 : Enters Try.prog 139 := ⟨_, Try.func139, rfl, by kernel_rfl⟩
theorem Try.en140 : Enters Try.prog 140 := ⟨_, Try.func140, rfl, by kernel_rfl⟩
theorem Try.en141 : Enters Try.prog 141 := ⟨_, Try.func141, rfl, by kernel_rfl⟩
theorem Try.en142 : Enters Try.prog 142 := ⟨_, Try.func142, rfl, by kernel_rfl⟩
theorem Try.en143 : Enters Try.prog 143 := ⟨_, Try.func143, rfl, by kernel_rfl⟩
theorem Try.en145 : Enters Try.prog 145 := ⟨_, Try.func145, rfl, by kernel_rfl⟩
theorem Try.en147 : Enters Try.prog 147 := ⟨_, Try.func147, rfl, by kernel_rfl⟩
theorem Try.en148 : Enters Try.prog 148 := ⟨_, Try.func148, rfl, by kernel_rfl⟩
theorem Try.en150 : Enters Try.prog 150 := ⟨_, Try.func150, rfl, by kernel_rfl⟩
theorem Try.en151 : Enters Try.prog 151 := ⟨_, Try.func151, rfl, by kernel_rfl⟩
theorem Try.en160 : Enters Try.prog 160 := ⟨_, Try.func160, rfl, by kernel_rfl⟩
theorem Try.en177 : Enters Try.prog 177 := ⟨_, Try.func177, rfl, by kernel_rfl⟩
theorem Try.en178 : Enters Try.prog 178 := ⟨_, Try.func178, rfl, by kernel_rfl⟩
theorem Try.en179 : Enters Try.prog 179 := ⟨_, Try.func179, rfl, by kernel_rfl⟩
theorem Try.en185 : Enters Try.prog 185 := ⟨_, Try.func185, rfl, by kernel_rfl⟩
theorem Try.en186 : Enters Try.prog 186 := ⟨_, Try.func186, rfl, by kernel_rfl⟩
theorem Try.en189 : Enters Try.prog 189 := ⟨_, Try.func189, rfl, by kernel_rfl⟩
theorem Try.en190 : Enters Try.prog 190 := ⟨_, Try.func190, rfl, by kernel_rfl⟩
theorem Try.en191 : Enters Try.prog 191 := ⟨_, Try.func191, rfl, by kernel_rfl⟩
theorem Try.en192 : Enters Try.prog 192 := ⟨_, Try.func192, rfl, by kernel_rfl⟩
theorem Try.en205 : Enters Try.prog 205 := ⟨_, Try.func205, rfl, by kernel_rfl⟩
theorem Try.en206 : Enters Try.prog 206 := ⟨_, Try.func206, rfl, by kernel_rfl⟩
theorem Try.en212 : Enters Try.prog 212 := ⟨_, Try.func212, rfl, by kernel_rfl⟩
theorem Try.en213 : Enters Try.prog 213 := ⟨_, Try.func213, rfl, by kernel_rfl⟩
theorem Try.en220 : Enters Try.prog 220 := ⟨_, Try.func220, rfl, by kernel_rfl⟩
theorem Try.en221 : Enters Try.prog 221 := ⟨_, Try.func221, rfl, by kernel_rfl⟩
theorem Try.en222 : Enters Try.prog 222 := ⟨_, Try.func222, rfl, by kernel_rfl⟩
end Go.Proofs.Ytmlfbjlkccnpmaa
