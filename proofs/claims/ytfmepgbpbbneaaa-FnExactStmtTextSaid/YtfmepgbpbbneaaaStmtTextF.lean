/- Stmt Text: facts of the types and functions of the translation. -/
import Derived.Test.YtfmepgbpbbneaaaProg
import Derived.Test.YtfmepgbpbbneaaaStmtTextT
set_option linter.unusedVariables false
set_option linter.unusedSimpArgs false
namespace Go.Proofs.Ytfmepgbpbbneaaa
open Go.RowKit Go.X
theorem Try.follows : Try.prog.follows .mixedOrders = true := by kernel_rfl
theorem Try.ty3 : tyB Try.prog 3 = some (1, 8, some (.int .i64 (0)), false) := by kernel_rfl
theorem Try.ty9 : tyB Try.prog 9 = some (1, 16, some (.string (bs (([] : Str)))), false) := by kernel_rfl
theorem Try.ty45 : tyB Try.prog 45 = some (1, 24, some (.slice none 0 0), false) := by kernel_rfl
theorem Try.ty46 : tyB Try.prog 46 = some (1, 24, some (.slice none 0 0), false) := by kernel_rfl
theorem Try.ty48 : tyB Try.prog 48 = some (3, 64, some (.agg #[.string (bs (([] : Str))), .slice none 0 0, .slice none 0 0]), true) := by kernel_rfl
theorem Try.ty50 : tyB Try.prog 50 = some (1, 24, some (.agg #[.slice none 0 0]), true) := by kernel_rfl
theorem Try.ty57 : tyB Try.prog 57 = some (1, 24, some (.slice none 0 0), false) := by kernel_rfl
theorem Try.ty59 : tyB Try.prog 59 = some (3, 64, some (.agg #[.string (bs (([] : Str))), .slice none 0 0, .slice none 0 0]), true) := by kernel_rfl
theorem Try.ty61 : tyB Try.prog 61 = some (1, 24, some (.agg #[.slice none 0 0]), true) := by kernel_rfl
theorem Try.ty68 : tyB Try.prog 68 = some (3, 56, some (.agg #[.int .i64 (0), .slice none 0 0, .slice none 0 0]), true) := by kernel_rfl
theorem Try.ty70 : tyB Try.prog 70 = some (7, 112, some (.agg #[.int .i64 (0), .int .i64 (0), .slice none 0 0, .slice none 0 0, .string (bs (([] : Str))), .string (bs (([] : Str))), .string (bs (([] : Str)))]), true) := by kernel_rfl
theorem Try.ty74 : tyB Try.prog 74 = some (3, 56, some (.agg #[.int .i64 (0), .slice none 0 0, .slice none 0 0]), true) := by kernel_rfl
theorem Try.ty76 : tyB Try.prog 76 = some (7, 112, some (.agg #[.int .i64 (0), .int .i64 (0), .slice none 0 0, .slice none 0 0, .string (bs (([] : Str))), .string (bs (([] : Str))), .string (bs (([] : Str)))]), true) := by kernel_rfl
theorem Try.ty174 : tyB Try.prog 174 = some (3, 32, some (.agg #[.string (bs (([] : Str))), .int .i64 (0), .int .i64 (0)]), true) := by kernel_rfl
theorem Try.ty177 : tyB Try.prog 177 = some (3, 32, some (.agg #[.string (bs (([] : Str))), .int .i64 (0), .int .i64 (0)]), true) := by kernel_rfl
theorem Try.fd48_0 : fieldB Try.prog 48 0 = some (0, 0 + 1, false) := by kernel_rfl
theorem Try.fd48_1 : fieldB Try.prog 48 1 = some (1, 0 + 1, false) := by kernel_rfl
theorem Try.fd48_2 : fieldB Try.prog 48 2 = some (2, 0 + 1, false) := by kernel_rfl
theorem Try.fd50_0 : fieldB Try.prog 50 0 = some (0, 0 + 1, false) := by kernel_rfl
theorem Try.fd59_0 : fieldB Try.prog 59 0 = some (0, 0 + 1, false) := by kernel_rfl
theorem Try.fd59_1 : fieldB Try.prog 59 1 = some (1, 0 + 1, false) := by kernel_rfl
theorem Try.fd59_2 : fieldB Try.prog 59 2 = some (2, 0 + 1, false) := by kernel_rfl
theorem Try.fd61_0 : fieldB Try.prog 61 0 = some (0, 0 + 1, false) := by kernel_rfl
theorem Try.fd68_0 : fieldB Try.prog 68 0 = some (0, 0 + 1, false) := by kernel_rfl
theorem Try.fd68_1 : fieldB Try.prog 68 1 = some (1, 0 + 1, true) := by kernel_rfl
theorem Try.fd68_2 : fieldB Try.prog 68 2 = some (2, 0 + 1, true) := by kernel_rfl
theorem Try.fd70_0 : fieldB Try.prog 70 0 = some (0, 0 + 1, false) := by kernel_rfl
theorem Try.fd70_1 : fieldB Try.prog 70 1 = some (1, 2 + 1, true) := by kernel_rfl
theorem Try.fd70_2 : fieldB Try.prog 70 2 = some (4, 0 + 1, false) := by kernel_rfl
theorem Try.fd70_3 : fieldB Try.prog 70 3 = some (5, 0 + 1, false) := by kernel_rfl
theorem Try.fd70_4 : fieldB Try.prog 70 4 = some (6, 0 + 1, false) := by kernel_rfl
theorem Try.fd74_0 : fieldB Try.prog 74 0 = some (0, 0 + 1, false) := by kernel_rfl
theorem Try.fd74_1 : fieldB Try.prog 74 1 = some (1, 0 + 1, true) := by kernel_rfl
theorem Try.fd74_2 : fieldB Try.prog 74 2 = some (2, 0 + 1, true) := by kernel_rfl
theorem Try.fd76_0 : fieldB Try.prog 76 0 = some (0, 0 + 1, false) := by kernel_rfl
theorem Try.fd76_1 : fieldB Try.prog 76 1 = some (1, 2 + 1, true) := by kernel_rfl
theorem Try.fd76_2 : fieldB Try.prog 76 2 = some (4, 0 + 1, false) := by kernel_rfl
theorem Try.fd76_3 : fieldB Try.prog 76 3 = some (5, 0 + 1, false) := by kernel_rfl
theorem Try.fd76_4 : fieldB Try.prog 76 4 = some (6, 0 + 1, false) := by kernel_rfl
theorem Try.fd174_0 : fieldB Try.prog 174 0 = some (0, 0 + 1, false) := by kernel_rfl
theorem Try.fd174_1 : fieldB Try.prog 174 1 = some (1, 0 + 1, false) := by kernel_rfl
theorem Try.fd174_2 : fieldB Try.prog 174 2 = some (2, 0 + 1, false) := by kernel_rfl
theorem Try.fd177_0 : fieldB Try.prog 177 0 = some (0, 0 + 1, false) := by kernel_rfl
theorem Try.fd177_1 : fieldB Try.prog 177 1 = some (1, 0 + 1, false) := by kernel_rfl
theorem Try.fd177_2 : fieldB Try.prog 177 2 = some (2, 0 + 1, false) := by kernel_rfl
theorem Try.un4 : Try.prog.underlying 4 = some (.bool) := by kernel_rfl
theorem Try.un9 : Try.prog.underlying 9 = some (.string) := by kernel_rfl
theorem Try.un45 : Try.prog.underlying 45 = some (.slice 9) := by kernel_rfl
theorem Try.un46 : Try.prog.underlying 46 = some (.slice 174) := by kernel_rfl
theorem Try.un57 : Try.prog.underlying 57 = some (.slice 177) := by kernel_rfl
theorem Try.ex237 : Ext Try.prog 237 Extern.BytealgIndexByte.indexByte := ⟨_, Try.func237, by kernel_rfl, by kernel_rfl, by kernel_rfl, by kernel_rfl⟩
theorem Try.en20 : Enters Try.prog 20 := ⟨_, Try.func20, rfl, by kernel_rfl⟩
theorem Try.en21 : Enters Try.prog 21 := ⟨_, Try.func21, rfl, by kernel_rfl⟩
theorem Try.en23 : Enters Try.prog 23 := ⟨_, Try.func23, rfl, by kernel_rfl⟩
theorem Try.en24 : Enters Try.prog 24 := ⟨_, Try.func24, rfl, by kernel_rfl⟩
theorem Try.en27 : Enters Try.prog 27 := ⟨_, Try.func27, rfl, by kernel_rfl⟩
theorem Try.en28 : Enters Try.prog 28 := ⟨_, Try.func28, rfl, by kernel_rfl⟩
theorem Try.en29 : Enters Try.prog 29 := ⟨_, Try.func29, rfl, by kernel_rfl⟩
theorem Try.en30 : Enters Try.prog 30 := ⟨_, Try.func30, rfl, by kernel_rfl⟩
theorem Try.en31 : Enters Try.prog 31 := ⟨_, Try.func31, rfl, by kernel_rfl⟩
theorem Try.en32 : Enters Try.prog 32 := ⟨_, Try.func32, rfl, by kernel_rfl⟩
theorem Try.en33 : Enters Try.prog 33 := ⟨_, Try.func33, rfl, by kernel_rfl⟩
theorem Try.en50 : Enters Try.prog 50 := ⟨_, Try.func50, rfl, by kernel_rfl⟩
theorem Try.en51 : Enters Try.prog 51 := ⟨_, Try.func51, rfl, by kernel_rfl⟩
theorem Try.en69 : Enters Try.prog 69 := ⟨_, Try.func69, rfl, by kernel_rfl⟩
theorem Try.en70 : Enters Try.prog 70 := ⟨_, Try.func70, rfl, by kernel_rfl⟩
theorem Try.en73 : Enters Try.prog 73 := ⟨_, Try.func73, rfl, by kernel_rfl⟩
theorem Try.en74 : Enters Try.prog 74 := ⟨_, Try.func74, rfl, by kernel_rfl⟩
theorem Try.en77 : Enters Try.prog 77 := ⟨_, Try.func77, rfl, by kernel_rfl⟩
theorem Try.en78 : Enters Try.prog 78 := ⟨_, Try.func78, rfl, by kernel_rfl⟩
theorem Try.en79 : Enters Try.prog 79 := ⟨_, Try.func79, rfl, by kernel_rfl⟩
theorem Try.en80 : Enters Try.prog 80 := ⟨_, Try.func80, rfl, by kernel_rfl⟩
theorem Try.en81 : Enters Try.prog 81 := ⟨_, Try.func81, rfl, by kernel_rfl⟩
theorem Try.en82 : Enters Try.prog 82 := ⟨_, Try.func82, rfl, by kernel_rfl⟩
theorem Try.en83 : Enters Try.prog 83 := ⟨_, Try.func83, rfl, by kernel_rfl⟩
theorem Try.en84 : Enters Try.prog 84 := ⟨_, Try.func84, rfl, by kernel_rfl⟩
theorem Try.en85 : Enters Try.prog 85 := ⟨_, Try.func85, rfl, by kernel_rfl⟩
theorem Try.en130 : Enters Try.prog 130 := ⟨_, Try.func130, rfl, by kernel_rfl⟩
theorem Try.en131 : Enters Try.prog 131 := ⟨_, Try.func131, rfl, by kernel_rfl⟩
theorem Try.en132 : Enters Try.prog 132 := ⟨_, Try.func132, rfl, by kernel_rfl⟩
theorem Try.en133 : Enters Try.prog 133 := ⟨_, Try.func133, rfl, by kernel_rfl⟩
theorem Try.en134 : Enters Try.prog 134 := ⟨_, Try.func134, rfl, by kernel_rfl⟩
theorem Try.en135 : Enters Try.prog 135 := ⟨_, Try.func135, rfl, by kernel_rfl⟩
theorem Try.en136 : Enters Try.prog 136 := ⟨_, Try.func136, rfl, by kernel_rfl⟩
theorem Try.en137 : Enters Try.prog 137 := ⟨_, Try.func137, rfl, by kernel_rfl⟩
theorem Try.en138 : Enters Try.prog 138 := ⟨_, Try.func138, rfl, by kernel_rfl⟩
theorem Try.en139 : Enters Try.prog 139 := ⟨_, Try.func139, rfl, by kernel_rfl⟩
theorem Try.en140 : Enters Try.prog 140 := ⟨_, Try.func140, rfl, by kernel_rfl⟩
theorem Try.en141 : Enters Try.prog 141 := ⟨_, Try.func141, rfl, by kernel_rfl⟩
theorem Try.en142 : Enters Try.prog 142 := ⟨_, Try.func142, rfl, by kernel_rfl⟩
theorem Try.en159 : Enters Try.prog 159 := ⟨_, Try.func159, rfl, by kernel_rfl⟩
theorem Try.en164 : Enters Try.prog 164 := ⟨_, Try.func164, rfl, by kernel_rfl⟩
theorem Try.en177 : Enters Try.prog 177 := ⟨_, Try.func177, rfl, by kernel_rfl⟩
theorem Try.en178 : Enters Try.prog 178 := ⟨_, Try.func178, rfl, by kernel_rfl⟩
theorem Try.en179 : Enters Try.prog 179 := ⟨_, Try.func179, rfl, by kernel_rfl⟩
theorem Try.en180 : Enters Try.prog 180 := ⟨_, Try.func180, rfl, by kernel_rfl⟩
theorem Try.en181 : Enters Try.prog 181 := ⟨_, Try.func181, rfl, by kernel_rfl⟩
theorem Try.en182 : Enters Try.prog 182 := ⟨_, Try.func182, rfl, by kernel_rfl⟩
theorem Try.en183 : Enters Try.prog 183 := ⟨_, Try.func183, rfl, by kernel_rfl⟩
theorem Try.en184 : Enters Try.prog 184 := ⟨_, Try.func184, rfl, by kernel_rfl⟩
theorem Try.en188 : Enters Try.prog 188 := ⟨_, Try.func188, rfl, by kernel_rfl⟩
theorem Try.en189 : Enters Try.prog 189 := ⟨_, Try.func189, rfl, by kernel_rfl⟩
theorem Try.en190 : Enters Try.prog 190 := ⟨_, Try.func190, rfl, by kernel_rfl⟩
theorem Try.en191 : Enters Try.prog 191 := ⟨_, Try.func191, rfl, by kernel_rfl⟩
theorem Try.en192 : Enters Try.prog 192 := ⟨_, Try.func192, rfl, by kernel_rfl⟩
theorem Try.en212 : Enters Try.prog 212 := ⟨_, Try.func212, rfl, by kernel_rfl⟩
theorem Try.en213 : Enters Try.prog 213 := ⟨_, Try.func213, rfl, by kernel_rfl⟩
theorem Try.en214 : Enters Try.prog 214 := ⟨_, Try.func214, rfl, by kernel_rfl⟩
theorem Try.en215 : Enters Try.prog 215 := ⟨_, Try.func215, rfl, by kernel_rfl⟩
theorem Try.en216 : Enters Try.prog 216 := ⟨_, Try.func216, rfl, by kernel_rfl⟩
theorem Try.en219 : Enters Try.prog 219 := ⟨_, Try.func219, rfl, by kernel_rfl⟩
theorem Try.en220 : Enters Try.prog 220 := ⟨_, Try.func220, rfl, by kernel_rfl⟩
theorem Try.en230 : Enters Try.prog 230 := ⟨_, Try.func230, rfl, by kernel_rfl⟩
theorem Try.en231 : Enters Try.prog 231 := ⟨_, Try.func231, rfl, by kernel_rfl⟩
theorem Try.en236 : Enters Try.prog 236 := ⟨_, Try.func236, rfl, by kernel_rfl⟩
end Go.Proofs.Ytfmepgbpbbneaaa
