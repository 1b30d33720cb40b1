/- Diff Bytes: facts of the types and functions of the translation. -/
import Derived.Test.YtfmepgbpbbneaaaProg
import Derived.Test.YtfmepgbpbbneaaaDiffBytesT
set_option linter.unusedVariables false
set_option linter.unusedSimpArgs false
namespace Go.Proofs.Ytfmepgbpbbneaaa
open Go.RowKit Go.X
theorem Try.follows : Try.prog.follows .mixedOrders = true := by kernel_rfl
theorem Try.ty3 : tyB Try.prog 3 = some (1, 8, some (.int .i64 (0)), false) := by kernel_rfl
theorem Try.ty4 : tyB Try.prog 4 = some (1, 1, some (.bool (false)), false) := by kernel_rfl
theorem Try.ty5 : tyB Try.prog 5 = some (1, 1, some (.int .u8 (0)), false) := by kernel_rfl
theorem Try.ty9 : tyB Try.prog 9 = some (1, 16, some (.string (bs (([] : Str)))), false) := by kernel_rfl
theorem Try.ty33 : tyB Try.prog 33 = some (1, 24, some (.slice none 0 0), false) := by kernel_rfl
theorem Try.ty35 : tyB Try.prog 35 = some (3, 40, some (.agg #[.int .i64 (0), .int .i64 (0), .slice none 0 0]), true) := by kernel_rfl
theorem Try.ty39 : tyB Try.prog 39 = some (1, 24, some (.slice none 0 0), false) := by kernel_rfl
theorem Try.ty41 : tyB Try.prog 41 = some (3, 40, some (.agg #[.int .i64 (0), .int .i64 (0), .slice none 0 0]), true) := by kernel_rfl
theorem Try.ty116 : tyB Try.prog 116 = some (5, 56, some (.agg #[.int .i64 (0), .int .i64 (0), .string (bs (([] : Str))), .string (bs (([] : Str))), .bool (false)]), true) := by kernel_rfl
theorem Try.ty164 : tyB Try.prog 164 = some (5, 56, some (.agg #[.int .i64 (0), .int .i64 (0), .string (bs (([] : Str))), .string (bs (([] : Str))), .bool (false)]), true) := by kernel_rfl
theorem Try.fd35_0 : fieldB Try.prog 35 0 = some (0, 0 + 1, false) := by kernel_rfl
theorem Try.fd35_1 : fieldB Try.prog 35 1 = some (1, 0 + 1, false) := by kernel_rfl
theorem Try.fd35_2 : fieldB Try.prog 35 2 = some (2, 0 + 1, false) := by kernel_rfl
theorem Try.fd41_0 : fieldB Try.prog 41 0 = some (0, 0 + 1, false) := by kernel_rfl
theorem Try.fd41_1 : fieldB Try.prog 41 1 = some (1, 0 + 1, false) := by kernel_rfl
theorem Try.fd41_2 : fieldB Try.prog 41 2 = some (2, 0 + 1, false) := by kernel_rfl
theorem Try.fd116_0 : fieldB Try.prog 116 0 = some (0, 0 + 1, false) := by kernel_rfl
theorem Try.fd116_1 : fieldB Try.prog 116 1 = some (1, 0 + 1, false) := by kernel_rfl
theorem Try.fd116_2 : fieldB Try.prog 116 2 = some (2, 0 + 1, false) := by kernel_rfl
theorem Try.fd116_3 : fieldB Try.prog 116 3 = some (3, 0 + 1, false) := by kernel_rfl
theorem Try.fd116_4 : fieldB Try.prog 116 4 = some (4, 0 + 1, false) := by kernel_rfl
theorem Try.fd164_0 : fieldB Try.prog 164 0 = some (0, 0 + 1, false) := by kernel_rfl
theorem Try.fd164_1 : fieldB Try.prog 164 1 = some (1, 0 + 1, false) := by kernel_rfl
theorem Try.fd164_2 : fieldB Try.prog 164 2 = some (2, 0 + 1, false) := by kernel_rfl
theorem Try.fd164_3 : fieldB Try.prog 164 3 = some (3, 0 + 1, false) := by kernel_rfl
theorem Try.fd164_4 : fieldB Try.prog 164 4 = some (4, 0 + 1, false) := by kernel_rfl
theorem Try.un3 : Try.prog.underlying 3 = some (.int .i64) := by kernel_rfl
theorem Try.un4 : Try.prog.underlying 4 = some (.bool) := by kernel_rfl
theorem Try.un5 : Try.prog.underlying 5 = some (.int .u8) := by kernel_rfl
theorem Try.un9 : Try.prog.underlying 9 = some (.string) := by kernel_rfl
theorem Try.un33 : Try.prog.underlying 33 = some (.slice 164) := by kernel_rfl
theorem Try.un39 : Try.prog.underlying 39 = some (.slice 116) := by kernel_rfl
theorem Try.un81 : Try.prog.underlying 81 = some (.slice 3) := by kernel_rfl
theorem Try.un166 : Try.prog.underlying 166 = some (.slice 5) := by kernel_rfl
theorem Try.ex237 : Ext Try.prog 237 Extern.BytealgIndexByte.indexByte := ⟨_, Try.func237, by kernel_rfl, by kernel_rfl, by kernel_rfl, by kernel_rfl⟩
theorem Try.en15 : Enters Try.prog 15 := ⟨_, Try.func15, rfl, by kernel_rfl⟩
theorem Try.en16 : Enters Try.prog 16 := ⟨_, Try.func16, rfl, by kernel_rfl⟩
theorem Try.en17 : Enters Try.prog 17 := ⟨_, Try.func17, rfl, by kernel_rfl⟩
theorem Try.en18 : Enters Try.prog 18 := ⟨_, Try.func18, rfl, by kernel_rfl⟩
theorem Try.en19 : Enters Try.prog 19 := ⟨_, Try.func19, rfl, by kernel_rfl⟩
theorem Try.en50 : Enters Try.prog 50 := ⟨_, Try.func50, rfl, by kernel_rfl⟩
theorem Try.en51 : Enters Try.prog 51 := ⟨_, Try.func51, rfl, by kernel_rfl⟩
theorem Try.en59 : Enters Try.prog 59 := ⟨_, Try.func59, rfl, by kernel_rfl⟩
theorem Try.en60 : Enters Try.prog 60 := ⟨_, Try.func60, rfl, by kernel_rfl⟩
theorem Try.en61 : Enters Try.prog 61 := ⟨_, Try.func61, rfl, by kernel_rfl⟩
theorem Try.en62 : Enters Try.prog 62 := ⟨_, Try.func62, rfl, by kernel_rfl⟩
theorem Try.en63 : Enters Try.prog 63 := ⟨_, Try.func63, rfl, by kernel_rfl⟩
theorem Try.en64 : Enters Try.prog 64 := ⟨_, Try.func64, rfl, by kernel_rfl⟩
theorem Try.en65 : Enters Try.prog 65 := ⟨_, Try.func65, rfl, by kernel_rfl⟩
theorem Try.en66 : Enters Try.prog 66 := ⟨_, Try.func66, rfl, by kernel_rfl⟩
theorem Try.en67 : Enters Try.prog 67 := ⟨_, Try.func67, rfl, by kernel_rfl⟩
theorem Try.en68 : Enters Try.prog 68 := ⟨_, Try.func68, rfl, by kernel_rfl⟩
theorem Try.en116 : Enters Try.prog 116 := ⟨_, Try.func116, rfl, by kernel_rfl⟩
theorem Try.en117 : Enters Try.prog 117 := ⟨_, Try.func117, rfl, by kernel_rfl⟩
theorem Try.en118 : Enters Try.prog 118 := ⟨_, Try.func118, rfl, by kernel_rfl⟩
theorem Try.en119 : Enters Try.prog 119 := ⟨_, Try.func119, rfl, by kernel_rfl⟩
theorem Try.en120 : Enters Try.prog 120 := ⟨_, Try.func120, rfl, by kernel_rfl⟩
theorem Try.en121 : Enters Try.prog 121 := ⟨_, Try.func121, rfl, by kernel_rfl⟩
theorem Try.en122 : Enters Try.prog 122 := ⟨_, Try.func122, rfl, by kernel_rfl⟩
theorem Try.en123 : Enters Try.prog 123 := ⟨_, Try.func123, rfl, by kernel_rfl⟩
theorem Try.en124 : Enters Try.prog 124 := ⟨_, Try.func124, rfl, by kernel_rfl⟩
theorem Try.en125 : Enters Try.prog 125 := ⟨_, Try.func125, rfl, by kernel_rfl⟩
theorem Try.en126 : Enters Try.prog 126 := ⟨_, Try.func126, rfl, by kernel_rfl⟩
theorem Try.en127 : Enters Try.prog 127 := ⟨_, Try.func127, rfl, by kernel_rfl⟩
theorem Try.en128 : Enters Try.prog 128 := ⟨_, Try.func128, rfl, by kernel_rfl⟩
theorem Try.en129 : Enters Try.prog 129 := ⟨_, Try.func129, rfl, by kernel_rfl⟩
theorem Try.en170 : Enters Try.prog 170 := ⟨_, Try.func170, rfl, by kernel_rfl⟩
theorem Try.en171 : Enters Try.prog 171 := ⟨_, Try.func171, rfl, by kernel_rfl⟩
theorem Try.en172 : Enters Try.prog 172 := ⟨_, Try.func172, rfl, by kernel_rfl⟩
theorem Try.en173 : Enters Try.prog 173 := ⟨_, Try.func173, rfl, by kernel_rfl⟩
theorem Try.en174 : Enters Try.prog 174 := ⟨_, Try.func174, rfl, by kernel_rfl⟩
theorem Try.en175 : Enters Try.prog 175 := ⟨_, Try.func175, rfl, by kernel_rfl⟩
theorem Try.en176 : Enters Try.prog 176 := ⟨_, Try.func176, rfl, by kernel_rfl⟩
theorem Try.en202 : Enters Try.prog 202 := ⟨_, Try.func202, rfl, by kernel_rfl⟩
theorem Try.en206 : Enters Try.prog 206 := ⟨_, Try.func206, rfl, by kernel_rfl⟩
theorem Try.en208 : Enters Try.prog 208 := ⟨_, Try.func208, rfl, by kernel_rfl⟩
theorem Try.en209 : Enters Try.prog 209 := ⟨_, Try.func209, rfl, by kernel_rfl⟩
theorem Try.en210 : Enters Try.prog 210 := ⟨_, Try.func210, rfl, by kernel_rfl⟩
theorem Try.en211 : Enters Try.prog 211 := ⟨_, Try.func211, rfl, by kernel_rfl⟩
theorem Try.en213 : Enters Try.prog 213 := ⟨_, Try.func213, rfl, by kernel_rfl⟩
theorem Try.en216 : Enters Try.prog 216 := ⟨_, Try.func216, rfl, by kernel_rfl⟩
theorem Try.en224 : Enters Try.prog 224 := ⟨_, Try.func224, rfl, by kernel_rfl⟩
theorem Try.en225 : Enters Try.prog 225 := ⟨_, Try.func225, rfl, by kernel_rfl⟩
theorem Try.en226 : Enters Try.prog 226 := ⟨_, Try.func226, rfl, by kernel_rfl⟩
theorem Try.en227 : Enters Try.prog 227 := ⟨_, Try.func227, rfl, by kernel_rfl⟩
theorem Try.en228 : Enters Try.prog 228 := ⟨_, Try.func228, rfl, by kernel_rfl⟩
theorem Try.en229 : Enters Try.prog 229 := ⟨_, Try.func229, rfl, by kernel_rfl⟩
theorem Try.en230 : Enters Try.prog 230 := ⟨_, Try.func230, rfl, by kernel_rfl⟩
theorem Try.en231 : Enters Try.prog 231 := ⟨_, Try.func231, rfl, by kernel_rfl⟩
theorem Try.en234 : Enters Try.prog 234 := ⟨_, Try.func234, rfl, by kernel_rfl⟩
theorem Try.en235 : Enters Try.prog 235 := ⟨_, Try.func235, rfl, by kernel_rfl⟩
theorem Try.en236 : Enters Try.prog 236 := ⟨_, Try.func236, rfl, by kernel_rfl⟩
end Go.Proofs.Ytfmepgbpbbneaaa
