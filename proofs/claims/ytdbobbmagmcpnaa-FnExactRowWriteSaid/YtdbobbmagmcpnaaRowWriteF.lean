/- Row Write: facts of the types and functions of the translation. -/
import Derived.Test.YtdbobbmagmcpnaaProg
import Derived.Test.YtdbobbmagmcpnaaRowWriteT
set_option linter.unusedVariables false
set_option linter.unusedSimpArgs false
namespace Go.Proofs.Ytdbobbmagmcpnaa
open Go.RowKit Go.X
theorem Try.follows : Try.prog.follows .mixedOrders = true := by kernel_rfl
theorem Try.ty3 : tyB Try.prog 3 = some (1, 8, some (.int .i64 (0)), false) := by kernel_rfl
theorem Try.ty4 : tyB Try.prog 4 = some (1, 1, some (.bool (false)), false) := by kernel_rfl
theorem Try.ty9 : tyB Try.prog 9 = some (1, 16, some (.string (bs (([] : Str)))), false) := by kernel_rfl
theorem Try.ty22 : tyB Try.prog 22 = some (1, 24, some (.slice none 0 0), false) := by kernel_rfl
theorem Try.ty23 : tyB Try.prog 23 = some (1, 24, some (.slice none 0 0), false) := by kernel_rfl
theorem Try.ty25 : tyB Try.prog 25 = some (3, 64, some (.agg #[.string (bs (([] : Str))), .slice none 0 0, .slice none 0 0]), true) := by kernel_rfl
theorem Try.ty27 : tyB Try.prog 27 = some (1, 24, some (.agg #[.slice none 0 0]), true) := by kernel_rfl
theorem Try.ty31 : tyB Try.prog 31 = some (3, 40, some (.agg #[.string (bs (([] : Str))), .string (bs (([] : Str))), .bool (false)]), true) := by kernel_rfl
theorem Try.ty34 : tyB Try.prog 34 = some (1, 24, some (.slice none 0 0), false) := by kernel_rfl
theorem Try.ty36 : tyB Try.prog 36 = some (3, 64, some (.agg #[.string (bs (([] : Str))), .slice none 0 0, .slice none 0 0]), true) := by kernel_rfl
theorem Try.ty38 : tyB Try.prog 38 = some (1, 24, some (.agg #[.slice none 0 0]), true) := by kernel_rfl
theorem Try.ty168 : tyB Try.prog 168 = some (3, 32, some (.agg #[.string (bs (([] : Str))), .int .i64 (0), .int .i64 (0)]), true) := by kernel_rfl
theorem Try.ty171 : tyB Try.prog 171 = some (3, 32, some (.agg #[.string (bs (([] : Str))), .int .i64 (0), .int .i64 (0)]), true) := by kernel_rfl
theorem Try.fd25_0 : fieldB Try.prog 25 0 = some (0, 0 + 1, false) := by kernel_rfl
theorem Try.fd25_1 : fieldB Try.prog 25 1 = some (1, 0 + 1, false) := by kernel_rfl
theorem Try.fd25_2 : fieldB Try.prog 25 2 = some (2, 0 + 1, false) := by kernel_rfl
theorem Try.fd27_0 : fieldB Try.prog 27 0 = some (0, 0 + 1, false) := by kernel_rfl
theorem Try.fd31_0 : fieldB Try.prog 31 0 = some (0, 0 + 1, false) := by kernel_rfl
theorem Try.fd31_1 : fieldB Try.prog 31 1 = some (1, 0 + 1, false) := by kernel_rfl
theorem Try.fd31_2 : fieldB Try.prog 31 2 = some (2, 0 + 1, false) := by kernel_rfl
theorem Try.fd36_0 : fieldB Try.prog 36 0 = some (0, 0 + 1, false) := by kernel_rfl
theorem Try.fd36_1 : fieldB Try.prog 36 1 = some (1, 0 + 1, false) := by kernel_rfl
theorem Try.fd36_2 : fieldB Try.prog 36 2 = some (2, 0 + 1, false) := by kernel_rfl
theorem Try.fd38_0 : fieldB Try.prog 38 0 = some (0, 0 + 1, false) := by kernel_rfl
theorem Try.fd168_0 : fieldB Try.prog 168 0 = some (0, 0 + 1, false) := by kernel_rfl
theorem Try.fd168_1 : fieldB Try.prog 168 1 = some (1, 0 + 1, false) := by kernel_rfl
theorem Try.fd168_2 : fieldB Try.prog 168 2 = some (2, 0 + 1, false) := by kernel_rfl
theorem Try.fd171_0 : fieldB Try.prog 171 0 = some (0, 0 + 1, false) := by kernel_rfl
theorem Try.fd171_1 : fieldB Try.prog 171 1 = some (1, 0 + 1, false) := by kernel_rfl
theorem Try.fd171_2 : fieldB Try.prog 171 2 = some (2, 0 + 1, false) := by kernel_rfl
theorem Try.un4 : Try.prog.underlying 4 = some (.bool) := by kernel_rfl
theorem Try.un9 : Try.prog.underlying 9 = some (.string) := by kernel_rfl
theorem Try.un22 : Try.prog.underlying 22 = some (.slice 9) := by kernel_rfl
theorem Try.un23 : Try.prog.underlying 23 = some (.slice 168) := by kernel_rfl
theorem Try.un34 : Try.prog.underlying 34 = some (.slice 171) := by kernel_rfl
theorem Try.ex233 : Ext Try.prog 233 Extern.BytealgIndexByte.indexByte := ⟨_, Try.func233, by kernel_rfl, by kernel_rfl, by kernel_rfl, by kernel_rfl⟩
theorem Try.en11 : Enters Try.prog 11 := ⟨_, Try.func11, rfl, by kernel_rfl⟩
theorem Try.en12 : Enters Try.prog 12 := ⟨_, Try.func12, rfl, by kernel_rfl⟩
theorem Try.en13 : Enters Try.prog 13 := ⟨_, Try.func13, rfl, by kernel_rfl⟩
theorem Try.en14 : Enters Try.prog 14 := ⟨_, Try.func14, rfl, by kernel_rfl⟩
theorem Try.en15 : Enters Try.prog 15 := ⟨_, Try.func15, rfl, by kernel_rfl⟩
theorem Try.en16 : Enters Try.prog 16 := ⟨_, Try.func16, rfl, by kernel_rfl⟩
theorem Try.en17 : Enters Try.prog 17 := ⟨_, Try.func17, rfl, by kernel_rfl⟩
theorem Try.en18 : Enters Try.prog 18 := ⟨_, Try.func18, rfl, by kernel_rfl⟩
theorem Try.en19 : Enters Try.prog 19 := ⟨_, Try.func19, rfl, by kernel_rfl⟩
theorem Try.en60 : Enters Try.prog 60 := ⟨_, Try.func60, rfl, by kernel_rfl⟩
theorem Try.en61 : Enters Try.prog 61 := ⟨_, Try.func61, rfl, by kernel_rfl⟩
theorem Try.en62 : Enters Try.prog 62 := ⟨_, Try.func62, rfl, by kernel_rfl⟩
theorem Try.en63 : Enters Try.prog 63 := ⟨_, Try.func63, rfl, by kernel_rfl⟩
theorem Try.en64 : Enters Try.prog 64 := ⟨_, Try.func64, rfl, by kernel_rfl⟩
theorem Try.en65 : Enters Try.prog 65 := ⟨_, Try.func65, rfl, by kernel_rfl⟩
theorem Try.en66 : Enters Try.prog 66 := ⟨_, Try.func66, rfl, by kernel_rfl⟩
theorem Try.en67 : Enters Try.prog 67 := ⟨_, Try.func67, rfl, by kernel_rfl⟩
theorem Try.en68 : Enters Try.prog 68 := ⟨_, Try.func68, rfl, by kernel_rfl⟩
theorem Try.en69 : Enters Try.prog 69 := ⟨_, Try.func69, rfl, by kernel_rfl⟩
theorem Try.en72 : Enters Try.prog 72 := ⟨_, Try.func72, rfl, by kernel_rfl⟩
theorem Try.en77 : Enters Try.prog 77 := ⟨_, Try.func77, rfl, by kernel_rfl⟩
theorem Try.en93 : Enters Try.prog 93 := ⟨_, Try.func93, rfl, by kernel_rfl⟩
theorem Try.en125 : Enters Try.prog 125 := ⟨_, Try.func125, rfl, by kernel_rfl⟩
theorem Try.en126 : Enters Try.prog 126 := ⟨_, Try.func126, rfl, by kernel_rfl⟩
theorem Try.en127 : Enters Try.prog 127 := ⟨_, Try.func127, rfl, by kernel_rfl⟩
theorem Try.en128 : Enters Try.prog 128 := ⟨_, Try.func128, rfl, by kernel_rfl⟩
theorem Try.en129 : Enters Try.prog 129 := ⟨_, Try.func129, rfl, by kernel_rfl⟩
theorem Try.en130 : Enters Try.prog 130 := ⟨_, Try.func130, rfl, by kernel_rfl⟩
theorem Try.en131 : Enters Try.prog 131 := ⟨_, Try.func131, rfl, by kernel_rfl⟩
theorem Try.en132 : Enters Try.prog 132 := ⟨_, Try.func132, rfl, by kernel_rfl⟩
theorem Try.en133 : Enters Try.prog 133 := ⟨_, Try.func133, rfl, by kernel_rfl⟩
theorem Try.en172 : Enters Try.prog 172 := ⟨_, Try.func172, rfl, by kernel_rfl⟩
theorem Try.en173 : Enters Try.prog 173 := ⟨_, Try.func173, rfl, by kernel_rfl⟩
theorem Try.en174 : Enters Try.prog 174 := ⟨_, Try.func174, rfl, by kernel_rfl⟩
theorem Try.en175 : Enters Try.prog 175 := ⟨_, Try.func175, rfl, by kernel_rfl⟩
theorem Try.en176 : Enters Try.prog 176 := ⟨_, Try.func176, rfl, by kernel_rfl⟩
theorem Try.en177 : Enters Try.prog 177 := ⟨_, Try.func177, rfl, by kernel_rfl⟩
theorem Try.en178 : Enters Try.prog 178 := ⟨_, Try.func178, rfl, by kernel_rfl⟩
theorem Try.en179 : Enters Try.prog 179 := ⟨_, Try.func179, rfl, by kernel_rfl⟩
theorem Try.en209 : Enters Try.prog 209 := ⟨_, Try.func209, rfl, by kernel_rfl⟩
theorem Try.en210 : Enters Try.prog 210 := ⟨_, Try.func210, rfl, by kernel_rfl⟩
theorem Try.en211 : Enters Try.prog 211 := ⟨_, Try.func211, rfl, by kernel_rfl⟩
theorem Try.en212 : Enters Try.prog 212 := ⟨_, Try.func212, rfl, by kernel_rfl⟩
theorem Try.en213 : Enters Try.prog 213 := ⟨_, Try.func213, rfl, by kernel_rfl⟩
theorem Try.en223 : Enters Try.prog 223 := ⟨_, Try.func223, rfl, by kernel_rfl⟩
theorem Try.en224 : Enters Try.prog 224 := ⟨_, Try.func224, rfl, by kernel_rfl⟩
theorem Try.en230 : Enters Try.prog 230 := ⟨_, Try.func230, rfl, by kernel_rfl⟩
end Go.Proofs.Ytdbobbmagmcpnaa
