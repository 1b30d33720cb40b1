/- Entries In: facts of the types and functions of the translation. -/
import Derived.Test.YtjeafbkejeallaaProg
import Derived.Test.YtjeafbkejeallaaEntriesInT
set_option linter.unusedVariables false
set_option linter.unusedSimpArgs false
namespace Go.Proofs.Ytjeafbkejeallaa
open Go.RowKit Go.X
theorem Try.follows : Try.prog.follows .mixedOrders = true := by kernel_rfl
theorem Try.ty3 : tyB Try.prog 3 = some (1, 8, some (.int .i64 (0)), false) := by kernel_rfl
theorem Try.ty4 : tyB Try.prog 4 = some (1, 1, some (.bool (false)), false) := by kernel_rfl
theorem Try.ty5 : tyB Try.prog 5 = some (1, 1, some (.int .u8 (0)), false) := by kernel_rfl
theorem Try.ty9 : tyB Try.prog 9 = some (1, 16, some (.string (bs (([] : Str)))), false) := by kernel_rfl
theorem Try.ty52 : tyB Try.prog 52 = some (1, 24, some (.slice none 0 0), false) := by kernel_rfl
theorem Try.ty53 : tyB Try.prog 53 = some (1, 24, some (.slice none 0 0), false) := by kernel_rfl
theorem Try.ty55 : tyB Try.prog 55 = some (3, 64, some (.agg #[.string (bs (([] : Str))), .slice none 0 0, .slice none 0 0]), true) := by kernel_rfl
theorem Try.ty63 : tyB Try.prog 63 = some (1, 24, some (.slice none 0 0), false) := by kernel_rfl
theorem Try.ty65 : tyB Try.prog 65 = some (3, 64, some (.agg #[.string (bs (([] : Str))), .slice none 0 0, .slice none 0 0]), true) := by kernel_rfl
theorem Try.ty125 : tyB Try.prog 125 = some (3, 40, some (.agg #[.string (bs (([] : Str))), .string (bs (([] : Str))), .bool (false)]), true) := by kernel_rfl
theorem Try.ty152 : tyB Try.prog 152 = some (3, 32, some (.agg #[.string (bs (([] : Str))), .int .i64 (0), .int .i64 (0)]), true) := by kernel_rfl
theorem Try.ty169 : tyB Try.prog 169 = some (3, 40, some (.agg #[.string (bs (([] : Str))), .string (bs (([] : Str))), .bool (false)]), true) := by kernel_rfl
theorem Try.ty202 : tyB Try.prog 202 = some (3, 32, some (.agg #[.string (bs (([] : Str))), .int .i64 (0), .int .i64 (0)]), true) := by kernel_rfl
theorem Try.fd55_0 : fieldB Try.prog 55 0 = some (0, 0 + 1, false) := by kernel_rfl
theorem Try.fd55_1 : fieldB Try.prog 55 1 = some (1, 0 + 1, false) := by kernel_rfl
theorem Try.fd55_2 : fieldB Try.prog 55 2 = some (2, 0 + 1, false) := by kernel_rfl
theorem Try.fd65_0 : fieldB Try.prog 65 0 = some (0, 0 + 1, false) := by kernel_rfl
theorem Try.fd65_1 : fieldB Try.prog 65 1 = some (1, 0 + 1, false) := by kernel_rfl
theorem Try.fd65_2 : fieldB Try.prog 65 2 = some (2, 0 + 1, false) := by kernel_rfl
theorem Try.fd125_0 : fieldB Try.prog 125 0 = some (0, 0 + 1, false) := by kernel_rfl
theorem Try.fd125_1 : fieldB Try.prog 125 1 = some (1, 0 + 1, false) := by kernel_rfl
theorem Try.fd125_2 : fieldB Try.prog 125 2 = some (2, 0 + 1, false) := by kernel_rfl
theorem Try.fd152_0 : fieldB Try.prog 152 0 = some (0, 0 + 1, false) := by kernel_rfl
theorem Try.fd152_1 : fieldB Try.prog 152 1 = some (1, 0 + 1, false) := by kernel_rfl
theorem Try.fd152_2 : fieldB Try.prog 152 2 = some (2, 0 + 1, false) := by kernel_rfl
theorem Try.fd169_0 : fieldB Try.prog 169 0 = some (0, 0 + 1, false) := by kernel_rfl
theorem Try.fd169_1 : fieldB Try.prog 169 1 = some (1, 0 + 1, false) := by kernel_rfl
theorem Try.fd169_2 : fieldB Try.prog 169 2 = some (2, 0 + 1, false) := by kernel_rfl
theorem Try.fd202_0 : fieldB Try.prog 202 0 = some (0, 0 + 1, false) := by kernel_rfl
theorem Try.fd202_1 : fieldB Try.prog 202 1 = some (1, 0 + 1, false) := by kernel_rfl
theorem Try.fd202_2 : fieldB Try.prog 202 2 = some (2, 0 + 1, false) := by kernel_rfl
theorem Try.un3 : Try.prog.underlying 3 = some (.int .i64) := by kernel_rfl
theorem Try.un4 : Try.prog.underlying 4 = some (.bool) := by kernel_rfl
theorem Try.un5 : Try.prog.underlying 5 = some (.int .u8) := by kernel_rfl
theorem Try.un9 : Try.prog.underlying 9 = some (.string) := by kernel_rfl
theorem Try.un35 : Try.prog.underlying 35 = some (.slice 125) := by kernel_rfl
theorem Try.un52 : Try.prog.underlying 52 = some (.slice 9) := by kernel_rfl
theorem Try.un53 : Try.prog.underlying 53 = some (.slice 202) := by kernel_rfl
theorem Try.un63 : Try.prog.underlying 63 = some (.slice 152) := by kernel_rfl
theorem Try.un78 : Try.prog.underlying 78 = some (.slice 169) := by kernel_rfl
theorem Try.un197 : Try.prog.underlying 197 = some (.slice 5) := by kernel_rfl
theorem Try.un268 : Try.prog.underlying 268 = some (.int .u32) := by kernel_rfl
theorem Try.ex263 : Ext Try.prog 263 Extern.BytealgIndexByte.indexByte := ⟨_, Try.func263, by kernel_rfl, by kernel_rfl, by kernel_rfl, by kernel_rfl⟩
theorem Try.en32 : Enters Try.prog 32 := ⟨_, Try.func32, rfl, by kernel_rfl⟩
theorem Try.en35 : Enters Try.prog 35 := ⟨_, Try.func35, rfl, by kernel_rfl⟩
theorem Try.en39 : Enters Try.prog 39 := ⟨_, Try.func39, rfl, by kernel_rfl⟩
theorem Try.en41 : Enters Try.prog 41 := ⟨_, Try.func41, rfl, by kernel_rfl⟩
theorem Try.en47 : Enters Try.prog 47 := ⟨_, Try.func47, rfl, by kernel_rfl⟩
theorem Try.en48 : Enters Try.prog 48 := ⟨_, Try.func48, rfl, by kernel_rfl⟩
theorem Try.en49 : Enters Try.prog 49 := ⟨_, Try.func49, rfl, by kernel_rfl⟩
theorem Try.en50 : Enters Try.prog 50 := ⟨_, Try.func50, rfl, by kernel_rfl⟩
theorem Try.en51 : Enters Try.prog 51 := ⟨_, Try.func51, rfl, by kernel_rfl⟩
theorem Try.en52 : Enters Try.prog 52 := ⟨_, Try.func52, rfl, by kernel_rfl⟩
theorem Try.en53 : Enters Try.prog 53 := ⟨_, Try.func53, rfl, by kernel_rfl⟩
theorem Try.en54 : Enters Try.prog 54 := ⟨_, Try.func54, rfl, by kernel_rfl⟩
theorem Try.en55 : Enters Try.prog 55 := ⟨_, Try.func55, rfl, by kernel_rfl⟩
theorem Try.en95 : Enters Try.prog 95 := ⟨_, Try.func95, rfl, by kernel_rfl⟩
theorem Try.en101 : Enters Try.prog 101 := ⟨_, Try.func101, rfl, by kernel_rfl⟩
theorem Try.en102 : Enters Try.prog 102 := ⟨_, Try.func102, rfl, by kernel_rfl⟩
theorem Try.en106 : Enters Try.prog 106 := ⟨_, Try.func106, rfl, by kernel_rfl⟩
theorem Try.en107 : Enters Try.prog 107 := ⟨_, Try.func107, rfl, by kernel_rfl⟩
theorem Try.en109 : Enters Try.prog 109 := ⟨_, Try.func109, rfl, by kernel_rfl⟩
theorem Try.en112 : Enters Try.prog 112 := ⟨_, Try.func112, rfl, by kernel_rfl⟩
theorem Try.en113 : Enters Try.prog 113 := ⟨_, Try.func113, rfl, by kernel_rfl⟩
theorem Try.en116 : Enters Try.prog 116 := ⟨_, Try.func116, rfl, by kernel_rfl⟩
theorem Try.en117 : Enters Try.prog 117 := ⟨_, Try.func117, rfl, by kernel_rfl⟩
theorem Try.en118 : Enters Try.prog 118 := ⟨_, Try.func118, rfl, by kernel_rfl⟩
theorem Try.en119 : Enters Try.prog 119 := ⟨_, Try.func119, rfl, by kernel_rfl⟩
theorem Try.en120 : Enters Try.prog 120 := ⟨_, Try.func120, rfl, by kernel_rfl⟩
theorem Try.en121 : Enters Try.prog 121 := ⟨_, Try.func121, rfl, by kernel_rfl⟩
theorem Try.en122 : Enters Try.prog 122 := ⟨_, Try.func122, rfl, by kernel_rfl⟩
theorem Try.en130 : Enters Try.prog 130 := ⟨_, Try.func130, rfl, by kernel_rfl⟩
theorem Try.en142 : Enters Try.prog 142 := ⟨_, Try.func142, rfl, by kernel_rfl⟩
theorem Try.en146 : Enters Try.prog 146 := ⟨_, Try.func146, rfl, by kernel_rfl⟩
theorem Try.en154 : Enters Try.prog 154 := ⟨_, Try.func154, rfl, by kernel_rfl⟩
theorem Try.en159 : Enters Try.prog 159 := ⟨_, Try.func159, rfl, by kernel_rfl⟩
theorem Try.en160 : Enters Try.prog 160 := ⟨_, Try.func160, rfl, by kernel_rfl⟩
theorem Try.en161 : Enters Try.prog 161 := ⟨_, Try.func161, rfl, by kernel_rfl⟩
theorem Try.en162 : Enters Try.prog 162 := ⟨_, Try.func162, rfl, by kernel_rfl⟩
theorem Try.en165 : Enters Try.prog 165 := ⟨_, Try.func165, rfl, by kernel_rfl⟩
theorem Try.en166 : Enters Try.prog 166 := ⟨_, Try.func166, rfl, by kernel_rfl⟩
theorem Try.en168 : Enters Try.prog 168 := ⟨_, Try.func168, rfl, by kernel_rfl⟩
theorem Try.en171 : Enters Try.prog 171 := ⟨_, Try.func171, rfl, by kernel_rfl⟩
theorem Try.en172 : Enters Try.prog 172 := ⟨_, Try.func172, rfl, by kernel_rfl⟩
theorem Try.en173 : Enters Try.prog 173 := ⟨_, Try.func173, rfl, by kernel_rfl⟩
theorem Try.en174 : Enters Try.prog 174 := ⟨_, Try.func174, rfl, by kernel_rfl⟩
theorem Try.en192 : Enters Try.prog 192 := ⟨_, Try.func192, rfl, by kernel_rfl⟩
theorem Try.en194 : Enters Try.prog 194 := ⟨_, Try.func194, rfl, by kernel_rfl⟩
theorem Try.en195 : Enters Try.prog 195 := ⟨_, Try.func195, rfl, by kernel_rfl⟩
theorem Try.en196 : Enters Try.prog 196 := ⟨_, Try.func196, rfl, by kernel_rfl⟩
theorem Try.en202 : Enters Try.prog 202 := ⟨_, Try.func202, rfl, by kernel_rfl⟩
theorem Try.en203 : Enters Try.prog 203 := ⟨_, Try.func203, rfl, by kernel_rfl⟩
theorem Try.en206 : Enters Try.prog 206 := ⟨_, Try.func206, rfl, by kernel_rfl⟩
theorem Try.en207 : Enters Try.prog 207 := ⟨_, Try.func207, rfl, by kernel_rfl⟩
theorem Try.en208 : Enters Try.prog 208 := ⟨_, Try.func208, rfl, by kernel_rfl⟩
theorem Try.en210 : Enters Try.prog 210 := ⟨_, Try.func210, rfl, by kernel_rfl⟩
theorem Try.en211 : Enters Try.prog 211 := ⟨_, Try.func211, rfl, by kernel_rfl⟩
theorem Try.en212 : Enters Try.prog 212 := ⟨_, Try.func212, rfl, by kernel_rfl⟩
theorem Try.en215 : Enters Try.prog 215 := ⟨_, Try.func215, rfl, by kernel_rfl⟩
theorem Try.en216 : Enters Try.prog 216 := ⟨_, Try.func216, rfl, by kernel_rfl⟩
theorem Try.en217 : Enters Try.prog 217 := ⟨_, Try.func217, rfl, by kernel_rfl⟩
theorem Try.en219 : Enters Try.prog 219 := ⟨_, Try.func219, rfl, by kernel_rfl⟩
theorem Try.en221 : Enters Try.prog 221 := ⟨_, Try.func221, rfl, by kernel_rfl⟩
theorem Try.en222 : Enters Try.prog 222 := ⟨_, Try.func222, rfl, by kernel_rfl⟩
theorem Try.en223 : Enters Try.prog 223 := ⟨_, Try.func223, rfl, by kernel_rfl⟩
theorem Try.en226 : Enters Try.prog 226 := ⟨_, Try.func226, rfl, by kernel_rfl⟩
theorem Try.en229 : Enters Try.prog 229 := ⟨_, Try.func229, rfl, by kernel_rfl⟩
theorem Try.en230 : Enters Try.prog 230 := ⟨_, Try.func230, rfl, by kernel_rfl⟩
theorem Try.en231 : Enters Try.prog 231 := ⟨_, Try.func231, rfl, by kernel_rfl⟩
theorem Try.en233 : Enters Try.prog 233 := ⟨_, Try.func233, rfl, by kernel_rfl⟩
theorem Try.en234 : Enters Try.prog 234 := ⟨_, Try.func234, rfl, by kernel_rfl⟩
theorem Try.en235 : Enters Try.prog 235 := ⟨_, Try.func235, rfl, by kernel_rfl⟩
theorem Try.en237 : Enters Try.prog 237 := ⟨_, Try.func237, rfl, by kernel_rfl⟩
theorem Try.en238 : Enters Try.prog 238 := ⟨_, Try.func238, rfl, by kernel_rfl⟩
theorem Try.en243 : Enters Try.prog 243 := ⟨_, Try.func243, rfl, by kernel_rfl⟩
theorem Try.en244 : Enters Try.prog 244 := ⟨_, Try.func244, rfl, by kernel_rfl⟩
theorem Try.en245 : Enters Try.prog 245 := ⟨_, Try.func245, rfl, by kernel_rfl⟩
theorem Try.en249 : Enters Try.prog 249 := ⟨_, Try.func249, rfl, by kernel_rfl⟩
theorem Try.en250 : Enters Try.prog 250 := ⟨_, Try.func250, rfl, by kernel_rfl⟩
theorem Try.en253 : Enters Try.prog 253 := ⟨_, Try.func253, rfl, by kernel_rfl⟩
theorem Try.en254 : Enters Try.prog 254 := ⟨_, Try.func254, rfl, by kernel_rfl⟩
theorem Try.en257 : Enters Try.prog 257 := ⟨_, Try.func257, rfl, by kernel_rfl⟩
end Go.Proofs.Ytjeafbkejeallaa
