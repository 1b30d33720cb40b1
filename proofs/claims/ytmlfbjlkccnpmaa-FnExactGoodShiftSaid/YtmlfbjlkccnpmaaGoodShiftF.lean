/- Good Shift: facts of the types and functions of the translation. -/
import Derived.Test.YtmlfbjlkccnpmaaProg
import Derived.Test.YtmlfbjlkccnpmaaGoodShiftT
set_option linter.unusedVariables false
set_option linter.unusedSimpArgs false
namespace Go.Proofs.Ytmlfbjlkccnpmaa
open Go.RowKit Go.X
theorem Try.follows : Try.prog.follows .mixedOrders = true := by kernel_rfl
theorem Try.ty3 : tyB Try.prog 3 = some (1, 8, some (.int .i64 (0)), false) := by kernel_rfl
theorem Try.ty4 : tyB Try.prog 4 = some (1, 1, some (.bool (false)), false) := by kernel_rfl
theorem Try.ty9 : tyB Try.prog 9 = some (1, 16, some (.string (bs (([] : Str)))), false) := by kernel_rfl
theorem Try.ty22 : tyB Try.prog 22 = some (1, 24, some (.slice none 0 0), false) := by kernel_rfl
theorem Try.ty23 : tyB Try.prog 23 = some (1, 24, some (.slice none 0 0), false) := by kernel_rfl
theorem Try.ty25 : tyB Try.prog 25 = some (3, 64, some (.agg #[.string (bs (([] : Str))), .slice none 0 0, .slice none 0 0]), true) := by kernel_rfl
theorem Try.ty33 : tyB Try.prog 33 = some (1, 24, some (.slice none 0 0), false) := by kernel_rfl
theorem Try.ty35 : tyB Try.prog 35 = some (3, 64, some (.agg #[.string (bs (([] : Str))), .slice none 0 0, .slice none 0 0]), true) := by kernel_rfl
theorem Try.ty73 : tyB Try.prog 73 = some (1, 24, some (.slice none 0 0), false) := by kernel_rfl
theorem Try.ty80 : tyB Try.prog 80 = some (1, 24, some (.slice none 0 0), false) := by kernel_rfl
theorem Try.ty94 : tyB Try.prog 94 = some (1, 24, some (.slice none 0 0), false) := by kernel_rfl
theorem Try.ty102 : tyB Try.prog 102 = some (1, 24, some (.slice none 0 0), false) := by kernel_rfl
theorem Try.ty103 : tyB Try.prog 103 = some (1, 24, some (.slice none 0 0), false) := by kernel_rfl
theorem Try.ty105 : tyB Try.prog 105 = some (4, 88, some (.agg #[.string (bs (([] : Str))), .slice none 0 0, .slice none 0 0, .slice none 0 0]), true) := by kernel_rfl
theorem Try.ty109 : tyB Try.prog 109 = some (4, 88, some (.agg #[.string (bs (([] : Str))), .slice none 0 0, .slice none 0 0, .slice none 0 0]), true) := by kernel_rfl
theorem Try.ty132 : tyB Try.prog 132 = some (3, 32, some (.agg #[.string (bs (([] : Str))), .int .i64 (0), .int .i64 (0)]), true) := by kernel_rfl
theorem Try.ty144 : tyB Try.prog 144 = some (3, 40, some (.agg #[.string (bs (([] : Str))), .string (bs (([] : Str))), .bool (false)]), true) := by kernel_rfl
theorem Try.ty177 : tyB Try.prog 177 = some (3, 32, some (.agg #[.string (bs (([] : Str))), .int .i64 (0), .int .i64 (0)]), true) := by kernel_rfl
theorem Try.ty196 : tyB Try.prog 196 = some (3, 40, some (.agg #[.string (bs (([] : Str))), .string (bs (([] : Str))), .bool (false)]), true) := by kernel_rfl
theorem Try.fd25_0 : fieldB Try.prog 25 0 = some (0, 0 + 1, false) := by kernel_rfl
theorem Try.fd25_1 : fieldB Try.prog 25 1 = some (1, 0 + 1, false) := by kernel_rfl
theorem Try.fd25_2 : fieldB Try.prog 25 2 = some (2, 0 + 1, false) := by kernel_rfl
theorem Try.fd35_0 : fieldB Try.prog 35 0 = some (0, 0 + 1, false) := by kernel_rfl
theorem Try.fd35_1 : fieldB Try.prog 35 1 = some (1, 0 + 1, false) := by kernel_rfl
theorem Try.fd35_2 : fieldB Try.prog 35 2 = some (2, 0 + 1, false) := by kernel_rfl
theorem Try.fd105_0 : fieldB Try.prog 105 0 = some (0, 0 + 1, false) := by kernel_rfl
theorem Try.fd105_1 : fieldB Try.prog 105 1 = some (1, 0 + 1, false) := by kernel_rfl
theorem Try.fd105_2 : fieldB Try.prog 105 2 = some (2, 0 + 1, false) := by kernel_rfl
theorem Try.fd105_3 : fieldB Try.prog 105 3 = some (3, 0 + 1, false) := by kernel_rfl
theorem Try.fd109_0 : fieldB Try.prog 109 0 = some (0, 0 + 1, false) := by kernel_rfl
theorem Try.fd109_1 : fieldB Try.prog 109 1 = some (1, 0 + 1, false) := by kernel_rfl
theorem Try.fd109_2 : fieldB Try.prog 109 2 = some (2, 0 + 1, false) := by kernel_rfl
theorem Try.fd109_3 : fieldB Try.prog 109 3 = some (3, 0 + 1, false) := by kernel_rfl
theorem Try.fd132_0 : fieldB Try.prog 132 0 = some (0, 0 + 1, false) := by kernel_rfl
theorem Try.fd132_1 : fieldB Try.prog 132 1 = some (1, 0 + 1, false) := by kernel_rfl
theorem Try.fd132_2 : fieldB Try.prog 132 2 = some (2, 0 + 1, false) := by kernel_rfl
theorem Try.fd144_0 : fieldB Try.prog 144 0 = some (0, 0 + 1, false) := by kernel_rfl
theorem Try.fd144_1 : fieldB Try.prog 144 1 = some (1, 0 + 1, false) := by kernel_rfl
theorem Try.fd144_2 : fieldB Try.prog 144 2 = some (2, 0 + 1, false) := by kernel_rfl
theorem Try.fd177_0 : fieldB Try.prog 177 0 = some (0, 0 + 1, false) := by kernel_rfl
theorem Try.fd177_1 : fieldB Try.prog 177 1 = some (1, 0 + 1, false) := by kernel_rfl
theorem Try.fd177_2 : fieldB Try.prog 177 2 = some (2, 0 + 1, false) := by kernel_rfl
theorem Try.fd196_0 : fieldB Try.prog 196 0 = some (0, 0 + 1, false) := by kernel_rfl
theorem Try.fd196_1 : fieldB Try.prog 196 1 = some (1, 0 + 1, false) := by kernel_rfl
theorem Try.fd196_2 : fieldB Try.prog 196 2 = some (2, 0 + 1, false) := by kernel_rfl
theorem Try.un4 : Try.prog.underlying 4 = some (.bool) := by kernel_rfl
theorem Try.un9 : Try.prog.underlying 9 = some (.string) := by kernel_rfl
theorem Try.un22 : Try.prog.underlying 22 = some (.slice 9) := by kernel_rfl
theorem Try.un23 : Try.prog.underlying 23 = some (.slice 177) := by kernel_rfl
theorem Try.un33 : Try.prog.underlying 33 = some (.slice 132) := by kernel_rfl
theorem Try.un73 : Try.prog.underlying 73 = some (.slice 196) := by kernel_rfl
theorem Try.un80 : Try.prog.underlying 80 = some (.slice 144) := by kernel_rfl
theorem Try.un94 : Try.prog.underlying 94 = some (.slice 35) := by kernel_rfl
theorem Try.un102 : Try.prog.underlying 102 = some (.slice 25) := by kernel_rfl
theorem Try.un103 : Try.prog.underlying 103 = some (.slice 3) := by kernel_rfl
theorem Try.ae132 {x y : DIdx} : AggEq Try.prog 132 (e_Idx x) (e_Idx y) ((x.Name == y.Name) && (decide (x.Col = y.Col) && decide (x.Stage = y.Stage))) := by
  refine ⟨by kernel_rfl, fun w => ?_⟩
  have u3 := Try.underlying3; have a3 := Try.isAgg3; have z3 := Try.sizeOf3
  have u9 := Try.underlying9; have a9 := Try.isAgg9; have z9 := Try.sizeOf9
  rw [run_equalIn_struct w 9999 132 _ _ (by kernel_rfl) (by kernel_rfl)]
  simp only [Program.fieldsOf, Try.underlying132, e_Idx, List.toArray]
  go_simp
  simp only [bs_toList]
  by_cases h0 : x.Name = y.Name <;> by_cases h1 : x.Col = y.Col <;> by_cases h2 : x.Stage = y.Stage <;> simp [h0, h1, h2]
theorem Try.ex228 : Ext Try.prog 228 Extern.BytealgIndexByte.indexByte := ⟨_, Try.func228, by kernel_rfl, by kernel_rfl, by kernel_rfl, by kernel_rfl⟩
theorem Try.en14 : Enters Try.prog 14 := ⟨_, Try.func14, rfl, by kernel_rfl⟩
theorem Try.en17 : Enters Try.prog 17 := ⟨_, Try.func17, rfl, by kernel_rfl⟩
theorem Try.en20 : Enters Try.prog 20 := ⟨_, Try.func20, rfl, by kernel_rfl⟩
theorem Try.en56 : Enters Try.prog 56 := ⟨_, Try.func56, rfl, by kernel_rfl⟩
theorem Try.en61 : Enters Try.prog 61 := ⟨_, Try.func61, rfl, by kernel_rfl⟩
theorem Try.en62 : Enters Try.prog 62 := ⟨_, Try.func62, rfl, by kernel_rfl⟩
theorem Try.en63 : Enters Try.prog 63 := ⟨_, Try.func63, rfl, by kernel_rfl⟩
theorem Try.en64 : Enters Try.prog 64 := ⟨_, Try.func64, rfl, by kernel_rfl⟩
theorem Try.en65 : Enters Try.prog 65 := ⟨_, Try.func65, rfl, by kernel_rfl⟩
theorem Try.en66 : Enters Try.prog 66 := ⟨_, Try.func66, rfl, by kernel_rfl⟩
theorem Try.en67 : Enters Try.prog 67 := ⟨_, Try.func67, rfl, by kernel_rfl⟩
theorem Try.en68 : Enters Try.prog 68 := ⟨_, Try.func68, rfl, by kernel_rfl⟩
theorem Try.en70 : Enters Try.prog 70 := ⟨_, Try.func70, rfl, by kernel_rfl⟩
theorem Try.en71 : Enters Try.prog 71 := ⟨_, Try.func71, rfl, by kernel_rfl⟩
theorem Try.en72 : Enters Try.prog 72 := ⟨_, Try.func72, rfl, by kernel_rfl⟩
theorem Try.en74 : Enters Try.prog 74 := ⟨_, Try.func74, rfl, by kernel_rfl⟩
theorem Try.en75 : Enters Try.prog 75 := ⟨_, Try.func75, rfl, by kernel_rfl⟩
theorem Try.en90 : Enters Try.prog 90 := ⟨_, Try.func90, rfl, by kernel_rfl⟩
theorem Try.en92 : Enters Try.prog 92 := ⟨_, Try.func92, rfl, by kernel_rfl⟩
theorem Try.en93 : Enters Try.prog 93 := ⟨_, Try.func93, rfl, by kernel_rfl⟩
theorem Try.en94 : Enters Try.prog 94 := ⟨_, Try.func94, rfl, by kernel_rfl⟩
theorem Try.en95 : Enters Try.prog 95 := ⟨_, Try.func95, rfl, by kernel_rfl⟩
theorem Try.en96 : Enters Try.prog 96 := ⟨_, Try.func96, rfl, by kernel_rfl⟩
theorem Try.en98 : Enters Try.prog 98 := ⟨_, Try.func98, rfl, by kernel_rfl⟩
theorem Try.en101 : Enters Try.prog 101 := ⟨_, Try.func101, rfl, by kernel_rfl⟩
theorem Try.en107 : Enters Try.prog 107 := ⟨_, Try.func107, rfl, by kernel_rfl⟩
theorem Try.en108 : Enters Try.prog 108 := ⟨_, Try.func108, rfl, by kernel_rfl⟩
theorem Try.en117 : Enters Try.prog 117 := ⟨_, Try.func117, rfl, by kernel_rfl⟩
theorem Try.en118 : Enters Try.prog 118 := ⟨_, Try.func118, rfl, by kernel_rfl⟩
theorem Try.en121 : Enters Try.prog 121 := ⟨_, Try.func121, rfl, by kernel_rfl⟩
theorem Try.en122 : Enters Try.prog 122 := ⟨_, Try.func122, rfl, by kernel_rfl⟩
theorem Try.en123 : Enters Try.prog 123 := ⟨_, Try.func123, rfl, by kernel_rfl⟩
theorem Try.en124 : Enters Try.prog 124 := ⟨_, Try.func124, rfl, by kernel_rfl⟩
theorem Try.en125 : Enters Try.prog 125 := ⟨_, Try.func125, rfl, by kernel_rfl⟩
theorem Try.en126 : Enters Try.prog 126 := ⟨_, Try.func126, rfl, by kernel_rfl⟩
theorem Try.en127 : Enters Try.prog 127 := ⟨_, Try.func127, rfl, by kernel_rfl⟩
theorem Try.en128 : Enters Try.prog 128 := ⟨_, Try.func128, rfl, by kernel_rfl⟩
theorem Try.en129 : Enters Try.prog 129 := ⟨_, Try.func129, rfl, by kernel_rfl⟩
theorem Try.en130 : Enters Try.prog 130 := ⟨_, Try.func130, rfl, by kernel_rfl⟩
theorem Try.en131 : Enters Try.prog 131 := ⟨_, Try.func131, rfl, by kernel_rfl⟩
theorem Try.en132 : Enters Try.prog 132 := ⟨_, Try.func132, rfl, by kernel_rfl⟩
theorem Try.en133 : Enters Try.prog 133 := ⟨_, Try.func133, rfl, by kernel_rfl⟩
theorem Try.en134 : Enters Try.prog 134 := ⟨_, Try.func134, rfl, by kernel_rfl⟩
theorem Try.en135 : Enters Try.prog 135 := ⟨_, Try.func135, rfl, by kernel_rfl⟩
theorem Try.en136 : Enters Try.prog 136 := ⟨_, Try.func136, rfl, by kernel_rfl⟩
theorem Try.en137 : Enters Try.prog 137 := ⟨_, Try.func137, rfl, by kernel_rfl⟩
theorem Try.en138 : Enters Try.prog 138 := ⟨_, Try.func138, rfl, by kernel_rfl⟩
theorem Try.en139 : Enters Try.prog 139 := ⟨_, Try.func139, rfl, by kernel_rfl⟩
theorem Try.en140 : Enters Try.prog 140 := ⟨_, Try.func140, rfl, by kernel_rfl⟩
theorem Try.en141 : Enters Try.prog 141 := ⟨_, Try.func141, rfl, by kernel_rfl⟩
theorem Try.en142 : Enters Try.prog 142 := ⟨_, Try.func142, rfl, by kernel_rfl⟩
theorem Try.en143 : Enters Try.prog 143 := ⟨_, Try.func143, rfl, by kernel_rfl⟩
theorem Try.en145 : Enters Try.prog 145 := ⟨_, Try.func145, rfl, by kernel_rfl⟩
theorem Try.en148 : Enters Try.prog 148 := ⟨_, Try.func148, rfl, by kernel_rfl⟩
theorem Try.en151 : Enters Try.prog 151 := ⟨_, Try.func151, rfl, by kernel_rfl⟩
theorem Try.en161 : Enters Try.prog 161 := ⟨_, Try.func161, rfl, by kernel_rfl⟩
theorem Try.en162 : Enters Try.prog 162 := ⟨_, Try.func162, rfl, by kernel_rfl⟩
theorem Try.en163 : Enters Try.prog 163 := ⟨_, Try.func163, rfl, by kernel_rfl⟩
theorem Try.en164 : Enters Try.prog 164 := ⟨_, Try.func164, rfl, by kernel_rfl⟩
theorem Try.en165 : Enters Try.prog 165 := ⟨_, Try.func165, rfl, by kernel_rfl⟩
theorem Try.en166 : Enters Try.prog 166 := ⟨_, Try.func166, rfl, by kernel_rfl⟩
theorem Try.en167 : Enters Try.prog 167 := ⟨_, Try.func167, rfl, by kernel_rfl⟩
theorem Try.en168 : Enters Try.prog 168 := ⟨_, Try.func168, rfl, by kernel_rfl⟩
theorem Try.en170 : Enters Try.prog 170 := ⟨_, Try.func170, rfl, by kernel_rfl⟩
theorem Try.en171 : Enters Try.prog 171 := ⟨_, Try.func171, rfl, by kernel_rfl⟩
theorem Try.en180 : Enters Try.prog 180 := ⟨_, Try.func180, rfl, by kernel_rfl⟩
theorem Try.en181 : Enters Try.prog 181 := ⟨_, Try.func181, rfl, by kernel_rfl⟩
theorem Try.en182 : Enters Try.prog 182 := ⟨_, Try.func182, rfl, by kernel_rfl⟩
theorem Try.en183 : Enters Try.prog 183 := ⟨_, Try.func183, rfl, by kernel_rfl⟩
theorem Try.en184 : Enters Try.prog 184 := ⟨_, Try.func184, rfl, by kernel_rfl⟩
theorem Try.en185 : Enters Try.prog 185 := ⟨_, Try.func185, rfl, by kernel_rfl⟩
theorem Try.en186 : Enters Try.prog 186 := ⟨_, Try.func186, rfl, by kernel_rfl⟩
theorem Try.en189 : Enters Try.prog 189 := ⟨_, Try.func189, rfl, by kernel_rfl⟩
theorem Try.en190 : Enters Try.prog 190 := ⟨_, Try.func190, rfl, by kernel_rfl⟩
theorem Try.en191 : Enters Try.prog 191 := ⟨_, Try.func191, rfl, by kernel_rfl⟩
theorem Try.en192 : Enters Try.prog 192 := ⟨_, Try.func192, rfl, by kernel_rfl⟩
theorem Try.en198 : Enters Try.prog 198 := ⟨_, Try.func198, rfl, by kernel_rfl⟩
theorem Try.en199 : Enters Try.prog 199 := ⟨_, Try.func199, rfl, by kernel_rfl⟩
theorem Try.en200 : Enters Try.prog 200 := ⟨_, Try.func200, rfl, by kernel_rfl⟩
theorem Try.en201 : Enters Try.prog 201 := ⟨_, Try.func201, rfl, by kernel_rfl⟩
theorem Try.en202 : Enters Try.prog 202 := ⟨_, Try.func202, rfl, by kernel_rfl⟩
theorem Try.en207 : Enters Try.prog 207 := ⟨_, Try.func207, rfl, by kernel_rfl⟩
theorem Try.en208 : Enters Try.prog 208 := ⟨_, Try.func208, rfl, by kernel_rfl⟩
theorem Try.en209 : Enters Try.prog 209 := ⟨_, Try.func209, rfl, by kernel_rfl⟩
theorem Try.en210 : Enters Try.prog 210 := ⟨_, Try.func210, rfl, by kernel_rfl⟩
theorem Try.en212 : Enters Try.prog 212 := ⟨_, Try.func212, rfl, by kernel_rfl⟩
theorem Try.en213 : Enters Try.prog 213 := ⟨_, Try.func213, rfl, by kernel_rfl⟩
theorem Try.en217 : Enters Try.prog 217 := ⟨_, Try.func217, rfl, by kernel_rfl⟩
theorem Try.en218 : Enters Try.prog 218 := ⟨_, Try.func218, rfl, by kernel_rfl⟩
theorem Try.en219 : Enters Try.prog 219 := ⟨_, Try.func219, rfl, by kernel_rfl⟩
theorem Try.en222 : Enters Try.prog 222 := ⟨_, Try.func222, rfl, by kernel_rfl⟩
end Go.Proofs.Ytmlfbjlkccnpmaa
