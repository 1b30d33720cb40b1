/- Join Diffs: facts of the types and functions of the translation. -/
import Derived.Test.YtdbobbmagmcpnaaProg
import Derived.Test.YtdbobbmagmcpnaaJoinDiffsT
set_option linter.unusedVariables false
set_option linter.unusedSimpArgs false
namespace Go.Proofs.Ytdbobbmagmcpnaa
open Go.RowKit Go.X
theorem Try.follows : Try.prog.follows .mixedOrders = true := by kernel_rfl
theorem Try.ty3 : tyB Try.prog 3 = some (1, 8, some (.int .i64 (0)), false) := by kernel_rfl
theorem Try.ty4 : tyB Try.prog 4 = some (1, 1, some (.bool (false)), false) := by kernel_rfl
theorem Try.ty5 : tyB Try.prog 5 = some (1, 1, some (.int .u8 (0)), false) := by kernel_rfl
theorem Try.ty9 : tyB Try.prog 9 = some (1, 16, some (.string (bs (([] : Str)))), false) := by kernel_rfl
theorem Try.ty79 : tyB Try.prog 79 = some (1, 24, some (.slice none 0 0), false) := by kernel_rfl
theorem Try.ty81 : tyB Try.prog 81 = some (3, 40, some (.agg #[.int .i64 (0), .int .i64 (0), .slice none 0 0]), true) := by kernel_rfl
theorem Try.ty83 : tyB Try.prog 83 = some (1, 24, some (.slice none 0 0), false) := by kernel_rfl
theorem Try.ty85 : tyB Try.prog 85 = some (3, 40, some (.agg #[.int .i64 (0), .int .i64 (0), .slice none 0 0]), true) := by kernel_rfl
theorem Try.ty140 : tyB Try.prog 140 = some (5, 56, some (.agg #[.int .i64 (0), .int .i64 (0), .string (bs (([] : Str))), .string (bs (([] : Str))), .bool (false)]), true) := by kernel_rfl
theorem Try.ty187 : tyB Try.prog 187 = some (5, 56, some (.agg #[.int .i64 (0), .int .i64 (0), .string (bs (([] : Str))), .string (bs (([] : Str))), .bool (false)]), true) := by kernel_rfl
theorem Try.fd81_0 : fieldB Try.prog 81 0 = some (0, 0 + 1, false) := by kernel_rfl
theorem Try.fd81_1 : fieldB Try.prog 81 1 = some (1, 0 + 1, false) := by kernel_rfl
theorem Try.fd81_2 : fieldB Try.prog 81 2 = some (2, 0 + 1, false) := by kernel_rfl
theorem Try.fd85_0 : fieldB Try.prog 85 0 = some (0, 0 + 1, false) := by kernel_rfl
theorem Try.fd85_1 : fieldB Try.prog 85 1 = some (1, 0 + 1, false) := by kernel_rfl
theorem Try.fd85_2 : fieldB Try.prog 85 2 = some (2, 0 + 1, false) := by kernel_rfl
theorem Try.fd140_0 : fieldB Try.prog 140 0 = some (0, 0 + 1, false) := by kernel_rfl
theorem Try.fd140_1 : fieldB Try.prog 140 1 = some (1, 0 + 1, false) := by kernel_rfl
theorem Try.fd140_2 : fieldB Try.prog 140 2 = some (2, 0 + 1, false) := by kernel_rfl
theorem Try.fd140_3 : fieldB Try.prog 140 3 = some (3, 0 + 1, false) := by kernel_rfl
theorem Try.fd140_4 : fieldB Try.prog 140 4 = some (4, 0 + 1, false) := by kernel_rfl
theorem Try.fd187_0 : fieldB Try.prog 187 0 = some (0, 0 + 1, false) := by kernel_rfl
theorem Try.fd187_1 : fieldB Try.prog 187 1 = some (1, 0 + 1, false) := by kernel_rfl
theorem Try.fd187_2 : fieldB Try.prog 187 2 = some (2, 0 + 1, false) := by kernel_rfl
theorem Try.fd187_3 : fieldB Try.prog 187 3 = some (3, 0 + 1, false) := by kernel_rfl
theorem Try.fd187_4 : fieldB Try.prog 187 4 = some (4, 0 + 1, false) := by kernel_rfl
theorem Try.un3 : Try.prog.underlying 3 = some (.int .i64) := by kernel_rfl
theorem Try.un4 : Try.prog.underlying 4 = some (.bool) := by kernel_rfl
theorem Try.un5 : Try.prog.underlying 5 = some (.int .u8) := by kernel_rfl
theorem Try.un9 : Try.prog.underlying 9 = some (.string) := by kernel_rfl
theorem Try.un47 : Try.prog.underlying 47 = some (.slice 3) := by kernel_rfl
theorem Try.un79 : Try.prog.underlying 79 = some (.slice 187) := by kernel_rfl
theorem Try.un83 : Try.prog.underlying 83 = some (.slice 140) := by kernel_rfl
theorem Try.un181 : Try.prog.underlying 181 = some (.slice 5) := by kernel_rfl
theorem Try.un192 : Try.prog.underlying 192 = some (.slice 83) := by kernel_rfl
theorem Try.ex233 : Ext Try.prog 233 Extern.BytealgIndexByte.indexByte := ⟨_, Try.func233, by kernel_rfl, by kernel_rfl, by kernel_rfl, by kernel_rfl⟩
theorem Try.en44 : Enters Try.prog 44 := ⟨_, Try.func44, rfl, by kernel_rfl⟩
theorem Try.en45 : Enters Try.prog 45 := ⟨_, Try.func45, rfl, by kernel_rfl⟩
theorem Try.en46 : Enters Try.prog 46 := ⟨_, Try.func46, rfl, by kernel_rfl⟩
theorem Try.en47 : Enters Try.prog 47 := ⟨_, Try.func47, rfl, by kernel_rfl⟩
theorem Try.en48 : Enters Try.prog 48 := ⟨_, Try.func48, rfl, by kernel_rfl⟩
theorem Try.en49 : Enters Try.prog 49 := ⟨_, Try.func49, rfl, by kernel_rfl⟩
theorem Try.en50 : Enters Try.prog 50 := ⟨_, Try.func50, rfl, by kernel_rfl⟩
theorem Try.en72 : Enters Try.prog 72 := ⟨_, Try.func72, rfl, by kernel_rfl⟩
theorem Try.en77 : Enters Try.prog 77 := ⟨_, Try.func77, rfl, by kernel_rfl⟩
theorem Try.en83 : Enters Try.prog 83 := ⟨_, Try.func83, rfl, by kernel_rfl⟩
theorem Try.en97 : Enters Try.prog 97 := ⟨_, Try.func97, rfl, by kernel_rfl⟩
theorem Try.en98 : Enters Try.prog 98 := ⟨_, Try.func98, rfl, by kernel_rfl⟩
theorem Try.en99 : Enters Try.prog 99 := ⟨_, Try.func99, rfl, by kernel_rfl⟩
theorem Try.en100 : Enters Try.prog 100 := ⟨_, Try.func100, rfl, by kernel_rfl⟩
theorem Try.en101 : Enters Try.prog 101 := ⟨_, Try.func101, rfl, by kernel_rfl⟩
theorem Try.en102 : Enters Try.prog 102 := ⟨_, Try.func102, rfl, by kernel_rfl⟩
theorem Try.en103 : Enters Try.prog 103 := ⟨_, Try.func103, rfl, by kernel_rfl⟩
theorem Try.en104 : Enters Try.prog 104 := ⟨_, Try.func104, rfl, by kernel_rfl⟩
theorem Try.en105 : Enters Try.prog 105 := ⟨_, Try.func105, rfl, by kernel_rfl⟩
theorem Try.en106 : Enters Try.prog 106 := ⟨_, Try.func106, rfl, by kernel_rfl⟩
theorem Try.en119 : Enters Try.prog 119 := ⟨_, Try.func119, rfl, by kernel_rfl⟩
theorem Try.en147 : Enters Try.prog 147 := ⟨_, Try.func147, rfl, by kernel_rfl⟩
theorem Try.en148 : Enters Try.prog 148 := ⟨_, Try.func148, rfl, by kernel_rfl⟩
theorem Try.en149 : Enters Try.prog 149 := ⟨_, Try.func149, rfl, by kernel_rfl⟩
theorem Try.en150 : Enters Try.prog 150 := ⟨_, Try.func150, rfl, by kernel_rfl⟩
theorem Try.en151 : Enters Try.prog 151 := ⟨_, Try.func151, rfl, by kernel_rfl⟩
theorem Try.en152 : Enters Try.prog 152 := ⟨_, Try.func152, rfl, by kernel_rfl⟩
theorem Try.en153 : Enters Try.prog 153 := ⟨_, Try.func153, rfl, by kernel_rfl⟩
theorem Try.en154 : Enters Try.prog 154 := ⟨_, Try.func154, rfl, by kernel_rfl⟩
theorem Try.en183 : Enters Try.prog 183 := ⟨_, Try.func183, rfl, by kernel_rfl⟩
theorem Try.en186 : Enters Try.prog 186 := ⟨_, Try.func186, rfl, by kernel_rfl⟩
theorem Try.en193 : Enters Try.prog 193 := ⟨_, Try.func193, rfl, by kernel_rfl⟩
theorem Try.en194 : Enters Try.prog 194 := ⟨_, Try.func194, rfl, by kernel_rfl⟩
theorem Try.en195 : Enters Try.prog 195 := ⟨_, Try.func195, rfl, by kernel_rfl⟩
theorem Try.en196 : Enters Try.prog 196 := ⟨_, Try.func196, rfl, by kernel_rfl⟩
theorem Try.en197 : Enters Try.prog 197 := ⟨_, Try.func197, rfl, by kernel_rfl⟩
theorem Try.en198 : Enters Try.prog 198 := ⟨_, Try.func198, rfl, by kernel_rfl⟩
theorem Try.en206 : Enters Try.prog 206 := ⟨_, Try.func206, rfl, by kernel_rfl⟩
theorem Try.en207 : Enters Try.prog 207 := ⟨_, Try.func207, rfl, by kernel_rfl⟩
theorem Try.en210 : Enters Try.prog 210 := ⟨_, Try.func210, rfl, by kernel_rfl⟩
theorem Try.en213 : Enters Try.prog 213 := ⟨_, Try.func213, rfl, by kernel_rfl⟩
theorem Try.en216 : Enters Try.prog 216 := ⟨_, Try.func216, rfl, by kernel_rfl⟩
theorem Try.en217 : Enters Try.prog 217 := ⟨_, Try.func217, rfl, by kernel_rfl⟩
theorem Try.en218 : Enters Try.prog 218 := ⟨_, Try.func218, rfl, by kernel_rfl⟩
theorem Try.en219 : Enters Try.prog 219 := ⟨_, Try.func219, rfl, by kernel_rfl⟩
theorem Try.en220 : Enters Try.prog 220 := ⟨_, Try.func220, rfl, by kernel_rfl⟩
theorem Try.en223 : Enters Try.prog 223 := ⟨_, Try.func223, rfl, by kernel_rfl⟩
theorem Try.en224 : Enters Try.prog 224 := ⟨_, Try.func224, rfl, by kernel_rfl⟩
theorem Try.en227 : Enters Try.prog 227 := ⟨_, Try.func227, rfl, by kernel_rfl⟩
theorem Try.en228 : Enters Try.prog 228 := ⟨_, Try.func228, rfl, by kernel_rfl⟩
theorem Try.en229 : Enters Try.prog 229 := ⟨_, Try.func229, rfl, by kernel_rfl⟩
theorem Try.en230 : Enters Try.prog 230 := ⟨_, Try.func230, rfl, by kernel_rfl⟩
theorem Try.en231 : Enters Try.prog 231 := ⟨_, Try.func231, rfl, by kernel_rfl⟩
theorem Try.en232 : Enters Try.prog 232 := ⟨_, Try.func232, rfl, by kernel_rfl⟩
end Go.Proofs.Ytdbobbmagmcpnaa
