/- Stmt Ops: facts of the types and functions of the translation. -/
import Derived.Test.YtjeafbkejeallaaProg
import Derived.Test.YtjeafbkejeallaaStmtOpsT
set_option linter.unusedVariables false
set_option linter.unusedSimpArgs false
namespace Go.Proofs.Ytjeafbkejeallaa
open Go.RowKit Go.X
theorem Try.follows : Try.prog.follows .mixedOrders = true := by kernel_rfl
theorem Try.ty3 : tyB Try.prog 3 = some (1, 8, some (.int .i64 (0)), false) := by kernel_rfl
theorem Try.ty5 : tyB Try.prog 5 = some (1, 1, some (.int .u8 (0)), false) := by kernel_rfl
theorem Try.ty9 : tyB Try.prog 9 = some (1, 16, some (.string (bs (([] : Str)))), false) := by kernel_rfl
theorem Try.ty52 : tyB Try.prog 52 = some (1, 24, some (.slice none 0 0), false) := by kernel_rfl
theorem Try.ty53 : tyB Try.prog 53 = some (1, 24, some (.slice none 0 0), false) := by kernel_rfl
theorem Try.ty55 : tyB Try.prog 55 = some (3, 64, some (.agg #[.string (bs (([] : Str))), .slice none 0 0, .slice none 0 0]), true) := by kernel_rfl
theorem Try.ty57 : tyB Try.prog 57 = some (1, 24, some (.agg #[.slice none 0 0]), true) := by kernel_rfl
theorem Try.ty60 : tyB Try.prog 60 = some (1, 24, some (.slice none 0 0), false) := by kernel_rfl
theorem Try.ty63 : tyB Try.prog 63 = some (1, 24, some (.slice none 0 0), false) := by kernel_rfl
theorem Try.ty65 : tyB Try.prog 65 = some (3, 64, some (.agg #[.string (bs (([] : Str))), .slice none 0 0, .slice none 0 0]), true) := by kernel_rfl
theorem Try.ty67 : tyB Try.prog 67 = some (1, 24, some (.agg #[.slice none 0 0]), true) := by kernel_rfl
theorem Try.ty89 : tyB Try.prog 89 = some (3, 56, some (.agg #[.int .i64 (0), .slice none 0 0, .slice none 0 0]), true) := by kernel_rfl
theorem Try.ty93 : tyB Try.prog 93 = some (3, 56, some (.agg #[.int .i64 (0), .slice none 0 0, .slice none 0 0]), true) := by kernel_rfl
theorem Try.ty99 : tyB Try.prog 99 = some (7, 112, some (.agg #[.int .i64 (0), .int .i64 (0), .slice none 0 0, .slice none 0 0, .string (bs (([] : Str))), .string (bs (([] : Str))), .string (bs (([] : Str)))]), true) := by kernel_rfl
theorem Try.ty103 : tyB Try.prog 103 = some (7, 112, some (.agg #[.int .i64 (0), .int .i64 (0), .slice none 0 0, .slice none 0 0, .string (bs (([] : Str))), .string (bs (([] : Str))), .string (bs (([] : Str)))]), true) := by kernel_rfl
theorem Try.ty125 : tyB Try.prog 125 = some (3, 40, some (.agg #[.string (bs (([] : Str))), .string (bs (([] : Str))), .bool (false)]), true) := by kernel_rfl
theorem Try.ty152 : tyB Try.prog 152 = some (3, 32, some (.agg #[.string (bs (([] : Str))), .int .i64 (0), .int .i64 (0)]), true) := by kernel_rfl
theorem Try.ty163 : tyB Try.prog 163 = some (4, 48, some (.agg #[.int .i64 (0), .string (bs (([] : Str))), .string (bs (([] : Str))), .int .i64 (0)]), true) := by kernel_rfl
theorem Try.ty202 : tyB Try.prog 202 = some (3, 32, some (.agg #[.string (bs (([] : Str))), .int .i64 (0), .int .i64 (0)]), true) := by kernel_rfl
theorem Try.fd55_0 : fieldB Try.prog 55 0 = some (0, 0 + 1, false) := by kernel_rfl
theorem Try.fd55_1 : fieldB Try.prog 55 1 = some (1, 0 + 1, false) := by kernel_rfl
theorem Try.fd55_2 : fieldB Try.prog 55 2 = some (2, 0 + 1, false) := by kernel_rfl
theorem Try.fd57_0 : fieldB Try.prog 57 0 = some (0, 0 + 1, false) := by kernel_rfl
theorem Try.fd65_0 : fieldB Try.prog 65 0 = some (0, 0 + 1, false) := by kernel_rfl
theorem Try.fd65_1 : fieldB Try.prog 65 1 = some (1, 0 + 1, false) := by kernel_rfl
theorem Try.fd65_2 : fieldB Try.prog 65 2 = some (2, 0 + 1, false) := by kernel_rfl
theorem Try.fd67_0 : fieldB Try.prog 67 0 = some (0, 0 + 1, false) := by kernel_rfl
theorem Try.fd89_0 : fieldB Try.prog 89 0 = some (0, 0 + 1, false) := by kernel_rfl
theorem Try.fd89_1 : fieldB Try.prog 89 1 = some (1, 0 + 1, true) := by kernel_rfl
theorem Try.fd89_2 : fieldB Try.prog 89 2 = some (2, 0 + 1, true) := by kernel_rfl
theorem Try.fd93_0 : fieldB Try.prog 93 0 = some (0, 0 + 1, false) := by kernel_rfl
theorem Try.fd93_1 : fieldB Try.prog 93 1 = some (1, 0 + 1, true) := by kernel_rfl
theorem Try.fd93_2 : fieldB Try.prog 93 2 = some (2, 0 + 1, true) := by kernel_rfl
theorem Try.fd99_0 : fieldB Try.prog 99 0 = some (0, 0 + 1, false) := by kernel_rfl
theorem Try.fd99_1 : fieldB Try.prog 99 1 = some (1, 2 + 1, true) := by kernel_rfl
theorem Try.fd99_2 : fieldB Try.prog 99 2 = some (4, 0 + 1, false) := by kernel_rfl
theorem Try.fd99_3 : fieldB Try.prog 99 3 = some (5, 0 + 1, false) := by kernel_rfl
theorem Try.fd99_4 : fieldB Try.prog 99 4 = some (6, 0 + 1, false) := by kernel_rfl
theorem Try.fd103_0 : fieldB Try.prog 103 0 = some (0, 0 + 1, false) := by kernel_rfl
theorem Try.fd103_1 : fieldB Try.prog 103 1 = some (1, 2 + 1, true) := by kernel_rfl
theorem Try.fd103_2 : fieldB Try.prog 103 2 = some (4, 0 + 1, false) := by kernel_rfl
theorem Try.fd103_3 : fieldB Try.prog 103 3 = some (5, 0 + 1, false) := by kernel_rfl
theorem Try.fd103_4 : fieldB Try.prog 103 4 = some (6, 0 + 1, false) := by kernel_rfl
theorem Try.fd125_0 : fieldB Try.prog 125 0 = some (0, 0 + 1, false) := by kernel_rfl
theorem Try.fd125_1 : fieldB Try.prog 125 1 = some (1, 0 + 1, false) := by kernel_rfl
theorem Try.fd152_0 : fieldB Try.prog 152 0 = some (0, 0 + 1, false) := by kernel_rfl
theorem Try.fd152_1 : fieldB Try.prog 152 1 = some (1, 0 + 1, false) := by kernel_rfl
theorem Try.fd152_2 : fieldB Try.prog 152 2 = some (2, 0 + 1, false) := by kernel_rfl
theorem Try.fd163_0 : fieldB Try.prog 163 0 = some (0, 0 + 1, false) := by kernel_rfl
theorem Try.fd163_1 : fieldB Try.prog 163 1 = some (1, 0 + 1, false) := by kernel_rfl
theorem Try.fd163_2 : fieldB Try.prog 163 2 = some (2, 0 + 1, false) := by kernel_rfl
theorem Try.fd163_3 : fieldB Try.prog 163 3 = some (3, 0 + 1, false) := by kernel_rfl
theorem Try.fd202_0 : fieldB Try.prog 202 0 = some (0, 0 + 1, false) := by kernel_rfl
theorem Try.fd202_1 : fieldB Try.prog 202 1 = some (1, 0 + 1, false) := by kernel_rfl
theorem Try.fd202_2 : fieldB Try.prog 202 2 = some (2, 0 + 1, false) := by kernel_rfl
theorem Try.un3 : Try.prog.underlying 3 = some (.int .i64) := by kernel_rfl
theorem Try.un4 : Try.prog.underlying 4 = some (.bool) := by kernel_rfl
theorem Try.un5 : Try.prog.underlying 5 = some (.int .u8) := by kernel_rfl
theorem Try.un9 : Try.prog.underlying 9 = some (.string) := by kernel_rfl
theorem Try.un52 : Try.prog.underlying 52 = some (.slice 9) := by kernel_rfl
theorem Try.un53 : Try.prog.underlying 53 = some (.slice 202) := by kernel_rfl
theorem Try.un60 : Try.prog.underlying 60 = some (.slice 163) := by kernel_rfl
theorem Try.un63 : Try.prog.underlying 63 = some (.slice 152) := by kernel_rfl
theorem Try.un197 : Try.prog.underlying 197 = some (.slice 5) := by kernel_rfl
theorem Try.ex263 : Ext Try.prog 263 Extern.BytealgIndexByte.indexByte := ⟨_, Try.func263, by kernel_rfl, by kernel_rfl, by kernel_rfl, by kernel_rfl⟩
theorem Try.en32 : Enters Try.prog 32 := ⟨_, Try.func32, rfl, by kernel_rfl⟩
theorem Try.en33 : Enters Try.prog 33 := ⟨_, Try.func33, rfl, by kernel_rfl⟩
theorem Try.en35 : Enters Try.prog 35 := ⟨_, Try.func35, rfl, by kernel_rfl⟩
theorem Try.en36 : Enters Try.prog 36 := ⟨_, Try.func36, rfl, by kernel_rfl⟩
theorem Try.en38 : Enters Try.prog 38 := ⟨_, Try.func38, rfl, by kernel_rfl⟩
theorem Try.en39 : Enters Try.prog 39 := ⟨_, Try.func39, rfl, by kernel_rfl⟩
theorem Try.en40 : Enters Try.prog 40 := ⟨_, Try.func40, rfl, by kernel_rfl⟩
theorem Try.en41 : Enters Try.prog 41 := ⟨_, Try.func41, rfl, by kernel_rfl⟩
theorem Try.en42 : Enters Try.prog 42 := ⟨_, Try.func42, rfl, by kernel_rfl⟩
theorem Try.en43 : Enters Try.prog 43 := ⟨_, Try.func43, rfl, by kernel_rfl⟩
theorem Try.en44 : Enters Try.prog 44 := ⟨_, Try.func44, rfl, by kernel_rfl⟩
theorem Try.en51 : Enters Try.prog 51 := ⟨_, Try.func51, rfl, by kernel_rfl⟩
theorem Try.en54 : Enters Try.prog 54 := ⟨_, Try.func54, rfl, by kernel_rfl⟩
theorem Try.en56 : Enters Try.prog 56 := ⟨_, Try.func56, rfl, by kernel_rfl⟩
theorem Try.en58 : Enters Try.prog 58 := ⟨_, Try.func58, rfl, by kernel_rfl⟩
theorem Try.en60 : Enters Try.prog 60 := ⟨_, Try.func60, rfl, by kernel_rfl⟩
theorem Try.en61 : Enters Try.prog 61 := ⟨_, Try.func61, rfl, by kernel_rfl⟩
theorem Try.en62 : Enters Try.prog 62 := ⟨_, Try.func62, rfl, by kernel_rfl⟩
theorem Try.en63 : Enters Try.prog 63 := ⟨_, Try.func63, rfl, by kernel_rfl⟩
theorem Try.en64 : Enters Try.prog 64 := ⟨_, Try.func64, rfl, by kernel_rfl⟩
theorem Try.en65 : Enters Try.prog 65 := ⟨_, Try.func65, rfl, by kernel_rfl⟩
theorem Try.en66 : Enters Try.prog 66 := ⟨_, Try.func66, rfl, by kernel_rfl⟩
theorem Try.en67 : Enters Try.prog 67 := ⟨_, Try.func67, rfl, by kernel_rfl⟩
theorem Try.en95 : Enters Try.prog 95 := ⟨_, Try.func95, rfl, by kernel_rfl⟩
theorem Try.en101 : Enters Try.prog 101 := ⟨_, Try.func101, rfl, by kernel_rfl⟩
theorem Try.en102 : Enters Try.prog 102 := ⟨_, Try.func102, rfl, by kernel_rfl⟩
theorem Try.en104 : Enters Try.prog 104 := ⟨_, Try.func104, rfl, by kernel_rfl⟩
theorem Try.en106 : Enters Try.prog 106 := ⟨_, Try.func106, rfl, by kernel_rfl⟩
theorem Try.en107 : Enters Try.prog 107 := ⟨_, Try.func107, rfl, by kernel_rfl⟩
theorem Try.en111 : Enters Try.prog 111 := ⟨_, Try.func111, rfl, by kernel_rfl⟩
theorem Try.en112 : Enters Try.prog 112 := ⟨_, Try.func112, rfl, by kernel_rfl⟩
theorem Try.en113 : Enters Try.prog 113 := ⟨_, Try.func113, rfl, by kernel_rfl⟩
theorem Try.en124 : Enters Try.prog 124 := ⟨_, Try.func124, rfl, by kernel_rfl⟩
theorem Try.en126 : Enters Try.prog 126 := ⟨_, Try.func126, rfl, by kernel_rfl⟩
theorem Try.en127 : Enters Try.prog 127 := ⟨_, Try.func127, rfl, by kernel_rfl⟩
theorem Try.en128 : Enters Try.prog 128 := ⟨_, Try.func128, rfl, by kernel_rfl⟩
theorem Try.en130 : Enters Try.prog 130 := ⟨_, Try.func130, rfl, by kernel_rfl⟩
theorem Try.en142 : Enters Try.prog 142 := ⟨_, Try.func142, rfl, by kernel_rfl⟩
theorem Try.en159 : Enters Try.prog 159 := ⟨_, Try.func159, rfl, by kernel_rfl⟩
theorem Try.en160 : Enters Try.prog 160 := ⟨_, Try.func160, rfl, by kernel_rfl⟩
theorem Try.en161 : Enters Try.prog 161 := ⟨_, Try.func161, rfl, by kernel_rfl⟩
theorem Try.en162 : Enters Try.prog 162 := ⟨_, Try.func162, rfl, by kernel_rfl⟩
theorem Try.en163 : Enters Try.prog 163 := ⟨_, Try.func163, rfl, by kernel_rfl⟩
theorem Try.en164 : Enters Try.prog 164 := ⟨_, Try.func164, rfl, by kernel_rfl⟩
theorem Try.en165 : Enters Try.prog 165 := ⟨_, Try.func165, rfl, by kernel_rfl⟩
theorem Try.en166 : Enters Try.prog 166 := ⟨_, Try.func166, rfl, by kernel_rfl⟩
theorem Try.en167 : Enters Try.prog 167 := ⟨_, Try.func167, rfl, by kernel_rfl⟩
theorem Try.en168 : Enters Try.prog 168 := ⟨_, Try.func168, rfl, by kernel_rfl⟩
theorem Try.en169 : Enters Try.prog 169 := ⟨_, Try.func169, rfl, by kernel_rfl⟩
theorem Try.en170 : Enters Try.prog 170 := ⟨_, Try.func170, rfl, by kernel_rfl⟩
theorem Try.en171 : Enters Try.prog 171 := ⟨_, Try.func171, rfl, by kernel_rfl⟩
theorem Try.en175 : Enters Try.prog 175 := ⟨_, Try.func175, rfl, by kernel_rfl⟩
theorem Try.en176 : Enters Try.prog 176 := ⟨_, Try.func176, rfl, by kernel_rfl⟩
theorem Try.en177 : Enters Try.prog 177 := ⟨_, Try.func177, rfl, by kernel_rfl⟩
theorem Try.en178 : Enters Try.prog 178 := ⟨_, Try.func178, rfl, by kernel_rfl⟩
theorem Try.en179 : Enters Try.prog 179 := ⟨_, Try.func179, rfl, by kernel_rfl⟩
theorem Try.en180 : Enters Try.prog 180 := ⟨_, Try.func180, rfl, by kernel_rfl⟩
theorem Try.en181 : Enters Try.prog 181 := ⟨_, Try.func181, rfl, by kernel_rfl⟩
theorem Try.en182 : Enters Try.prog 182 := ⟨_, Try.func182, rfl, by kernel_rfl⟩
theorem Try.en183 : Enters Try.prog 183 := ⟨_, Try.func183, rfl, by kernel_rfl⟩
theorem Try.en206 : Enters Try.prog 206 := ⟨_, Try.func206, rfl, by kernel_rfl⟩
theorem Try.en207 : Enters Try.prog 207 := ⟨_, Try.func207, rfl, by kernel_rfl⟩
theorem Try.en208 : Enters Try.prog 208 := ⟨_, Try.func208, rfl, by kernel_rfl⟩
theorem Try.en209 : Enters Try.prog 209 := ⟨_, Try.func209, rfl, by kernel_rfl⟩
theorem Try.en210 : Enters Try.prog 210 := ⟨_, Try.func210, rfl, by kernel_rfl⟩
theorem Try.en211 : Enters Try.prog 211 := ⟨_, Try.func211, rfl, by kernel_rfl⟩
theorem Try.en212 : Enters Try.prog 212 := ⟨_, Try.func212, rfl, by kernel_rfl⟩
theorem Try.en213 : Enters Try.prog 213 := ⟨_, Try.func213, rfl, by kernel_rfl⟩
theorem Try.en214 : Enters Try.prog 214 := ⟨_, Try.func214, rfl, by kernel_rfl⟩
theorem Try.en215 : Enters Try.prog 215 := ⟨_, Try.func215, rfl, by kernel_rfl⟩
theorem Try.en216 : Enters Try.prog 216 := ⟨_, Try.func216, rfl, by kernel_rfl⟩
theorem Try.en217 : Enters Try.prog 217 := ⟨_, Try.func217, rfl, by kernel_rfl⟩
theorem Try.en218 : Enters Try.prog 218 := ⟨_, Try.func218, rfl, by kernel_rfl⟩
theorem Try.en219 : Enters Try.prog 219 := ⟨_, Try.func219, rfl, by kernel_rfl⟩
theorem Try.en220 : Enters Try.prog 220 := ⟨_, Try.func220, rfl, by kernel_rfl⟩
theorem Try.en224 : Enters Try.prog 224 := ⟨_, Try.func224, rfl, by kernel_rfl⟩
theorem Try.en225 : Enters Try.prog 225 := ⟨_, Try.func225, rfl, by kernel_rfl⟩
theorem Try.en235 : Enters Try.prog 235 := ⟨_, Try.func235, rfl, by kernel_rfl⟩
theorem Try.en237 : Enters Try.prog 237 := ⟨_, Try.func237, rfl, by kernel_rfl⟩
theorem Try.en238 : Enters Try.prog 238 := ⟨_, Try.func238, rfl, by kernel_rfl⟩
theorem Try.en239 : Enters Try.prog 239 := ⟨_, Try.func239, rfl, by kernel_rfl⟩
theorem Try.en249 : Enters Try.prog 249 := ⟨_, Try.func249, rfl, by kernel_rfl⟩
theorem Try.en250 : Enters Try.prog 250 := ⟨_, Try.func250, rfl, by kernel_rfl⟩
theorem Try.en257 : Enters Try.prog 257 := ⟨_, Try.func257, rfl, by kernel_rfl⟩
end Go.Proofs.Ytjeafbkejeallaa
