/- Copy Bytes: facts of the types and functions of the translation. -/
import Derived.Test.YtmlfbjlkccnpmaaProg
import Derived.Test.YtmlfbjlkccnpmaaCopyBytesT
set_option linter.unusedVariables false
set_option linter.unusedSimpArgs false
namespace Go.Proofs.Ytmlfbjlkccnpmaa
open Go.RowKit Go.X
theorem Try.follows : Try.prog.follows .mixedOrders = true := by kernel_rfl
theorem Try.ty3 : tyB Try.prog 3 = some (1, 8, some (.int .i64 (0)), false) := by kernel_rfl
theorem Try.ty4 : tyB Try.prog 4 = some (1, 1, some (.bool (false)), false) := by kernel_rfl
theorem Try.ty5 : tyB Try.prog 5 = some (1, 1, some (.int .u8 (0)), false) := by kernel_rfl
theorem Try.ty9 : tyB Try.prog 9 = some (1, 16, some (.string (bs (([] : Str)))), false) := by kernel_rfl
theorem Try.ty73 : tyB Try.prog 73 = some (1, 24, some (.slice none 0 0), false) := by kernel_rfl
theorem Try.ty75 : tyB Try.prog 75 = some (2, 32, some (.agg #[.int .i64 (0), .slice none 0 0]), true) := by kernel_rfl
theorem Try.ty80 : tyB Try.prog 80 = some (1, 24, some (.slice none 0 0), false) := by kernel_rfl
theorem Try.ty82 : tyB Try.prog 82 = some (2, 32, some (.agg #[.int .i64 (0), .slice none 0 0]), true) := by kernel_rfl
theorem Try.ty144 : tyB Try.prog 144 = some (3, 40, some (.agg #[.string (bs (([] : Str))), .string (bs (([] : Str))), .bool (false)]), true) := by kernel_rfl
theorem Try.ty196 : tyB Try.prog 196 = some (3, 40, some (.agg #[.string (bs (([] : Str))), .string (bs (([] : Str))), .bool (false)]), true) := by kernel_rfl
theorem Try.fd75_0 : fieldB Try.prog 75 0 = some (0, 0 + 1, false) := by kernel_rfl
theorem Try.fd75_1 : fieldB Try.prog 75 1 = some (1, 0 + 1, false) := by kernel_rfl
theorem Try.fd82_0 : fieldB Try.prog 82 0 = some (0, 0 + 1, false) := by kernel_rfl
theorem Try.fd82_1 : fieldB Try.prog 82 1 = some (1, 0 + 1, false) := by kernel_rfl
theorem Try.fd144_0 : fieldB Try.prog 144 0 = some (0, 0 + 1, false) := by kernel_rfl
theorem Try.fd144_1 : fieldB Try.prog 144 1 = some (1, 0 + 1, false) := by kernel_rfl
theorem Try.fd144_2 : fieldB Try.prog 144 2 = some (2, 0 + 1, false) := by kernel_rfl
theorem Try.fd196_0 : fieldB Try.prog 196 0 = some (0, 0 + 1, false) := by kernel_rfl
theorem Try.fd196_1 : fieldB Try.prog 196 1 = some (1, 0 + 1, false) := by kernel_rfl
theorem Try.fd196_2 : fieldB Try.prog 196 2 = some (2, 0 + 1, false) := by kernel_rfl
theorem Try.un3 : Try.prog.underlying 3 = some (.int .i64) := by kernel_rfl
theorem Try.un4 : Try.prog.underlying 4 = some (.bool) := by kernel_rfl
theorem Try.un5 : Try.prog.underlying 5 = some (.int .u8) := by kernel_rfl
theorem Try.un9 : Try.prog.underlying 9 = some (.string) := by kernel_rfl
theorem Try.un22 : Try.prog.underlying 22 = some (.slice 9) := by kernel_rfl
theorem Try.un73 : Try.prog.underlying 73 = some (.slice 196) := by kernel_rfl
theorem Try.un80 : Try.prog.underlying 80 = some (.slice 144) := by kernel_rfl
theorem Try.un200 : Try.prog.underlying 200 = some (.slice 5) := by kernel_rfl
theorem Try.ex228 : Ext Try.prog 228 Extern.BytealgIndexByte.indexByte := ⟨_, Try.func228, by kernel_rfl, by kernel_rfl, by kernel_rfl, by kernel_rfl⟩
theorem Try.en39 : Enters Try.prog 39 := ⟨_, Try.func39, rfl, by kernel_rfl⟩
theorem Try.en41 : Enters Try.prog 41 := ⟨_, Try.func41, rfl, by kernel_rfl⟩
theorem Try.en44 : Enters Try.prog 44 := ⟨_, Try.func44, rfl, by kernel_rfl⟩
theorem Try.en52 : Enters Try.prog 52 := ⟨_, Try.func52, rfl, by kernel_rfl⟩
theorem Try.en53 : Enters Try.prog 53 := ⟨_, Try.func53, rfl, by kernel_rfl⟩
theorem Try.en81 : Enters Try.prog 81 := ⟨_, Try.func81, rfl, by kernel_rfl⟩
theorem Try.en96 : Enters Try.prog 96 := ⟨_, Try.func96, rfl, by kernel_rfl⟩
theorem Try.en97 : Enters Try.prog 97 := ⟨_, Try.func97, rfl, by kernel_rfl⟩
theorem Try.en98 : Enters Try.prog 98 := ⟨_, Try.func98, rfl, by kernel_rfl⟩
theorem Try.en99 : Enters Try.prog 99 := ⟨_, Try.func99, rfl, by kernel_rfl⟩
theorem Try.en101 : Enters Try.prog 101 := ⟨_, Try.func101, rfl, by kernel_rfl⟩
theorem Try.en113 : Enters Try.prog 113 := ⟨_, Try.func113, rfl, by kernel_rfl⟩
theorem Try.en114 : Enters Try.prog 114 := ⟨_, Try.func114, rfl, by kernel_rfl⟩
theorem Try.en115 : Enters Try.prog 115 := ⟨_, Try.func115, rfl, by kernel_rfl⟩
theorem Try.en116 : Enters Try.prog 116 := ⟨_, Try.func116, rfl, by kernel_rfl⟩
theorem Try.en124 : Enters Try.prog 124 := ⟨_, Try.func124, rfl, by kernel_rfl⟩
theorem Try.en129 : Enters Try.prog 129 := ⟨_, Try.func129, rfl, by kernel_rfl⟩
theorem Try.en130 : Enters Try.prog 130 := ⟨_, Try.func130, rfl, by kernel_rfl⟩
theorem Try.en166 : Enters Try.prog 166 := ⟨_, Try.func166, rfl, by kernel_rfl⟩
theorem Try.en167 : Enters Try.prog 167 := ⟨_, Try.func167, rfl, by kernel_rfl⟩
theorem Try.en168 : Enters Try.prog 168 := ⟨_, Try.func168, rfl, by kernel_rfl⟩
theorem Try.en170 : Enters Try.prog 170 := ⟨_, Try.func170, rfl, by kernel_rfl⟩
theorem Try.en172 : Enters Try.prog 172 := ⟨_, Try.func172, rfl, by kernel_rfl⟩
theorem Try.en173 : Enters Try.prog 173 := ⟨_, Try.func173, rfl, by kernel_rfl⟩
theorem Try.en174 : Enters Try.prog 174 := ⟨_, Try.func174, rfl, by kernel_rfl⟩
theorem Try.en175 : Enters Try.prog 175 := ⟨_, Try.func175, rfl, by kernel_rfl⟩
theorem Try.en176 : Enters Try.prog 176 := ⟨_, Try.func176, rfl, by kernel_rfl⟩
theorem Try.en180 : Enters Try.prog 180 := ⟨_, Try.func180, rfl, by kernel_rfl⟩
theorem Try.en181 : Enters Try.prog 181 := ⟨_, Try.func181, rfl, by kernel_rfl⟩
theorem Try.en182 : Enters Try.prog 182 := ⟨_, Try.func182, rfl, by kernel_rfl⟩
theorem Try.en189 : Enters Try.prog 189 := ⟨_, Try.func189, rfl, by kernel_rfl⟩
theorem Try.en190 : Enters Try.prog 190 := ⟨_, Try.func190, rfl, by kernel_rfl⟩
theorem Try.en198 : Enters Try.prog 198 := ⟨_, Try.func198, rfl, by kernel_rfl⟩
theorem Try.en199 : Enters Try.prog 199 := ⟨_, Try.func199, rfl, by kernel_rfl⟩
theorem Try.en202 : Enters Try.prog 202 := ⟨_, Try.func202, rfl, by kernel_rfl⟩
theorem Try.en204 : Enters Try.prog 204 := ⟨_, Try.func204, rfl, by kernel_rfl⟩
theorem Try.en207 : Enters Try.prog 207 := ⟨_, Try.func207, rfl, by kernel_rfl⟩
theorem Try.en208 : Enters Try.prog 208 := ⟨_, Try.func208, rfl, by kernel_rfl⟩
theorem Try.en209 : Enters Try.prog 209 := ⟨_, Try.func209, rfl, by kernel_rfl⟩
theorem Try.en210 : Enters Try.prog 210 := ⟨_, Try.func210, rfl, by kernel_rfl⟩
theorem Try.en212 : Enters Try.prog 212 := ⟨_, Try.func212, rfl, by kernel_rfl⟩
theorem Try.en213 : Enters Try.prog 213 := ⟨_, Try.func213, rfl, by kernel_rfl⟩
theorem Try.en217 : Enters Try.prog 217 := ⟨_, Try.func217, rfl, by kernel_rfl⟩
theorem Try.en218 : Enters Try.prog 218 := ⟨_, Try.func218, rfl, by kernel_rfl⟩
theorem Try.en219 : Enters Try.prog 219 := ⟨_, Try.func219, rfl, by kernel_rfl⟩
theorem Try.en222 : Enters Try.prog 222 := ⟨_, Try.func222, rfl, by kernel_rfl⟩
end Go.Proofs.Ytmlfbjlkccnpmaa
