/- New Shift: facts of the types and functions of the translation. -/
import Derived.Test.YtdbobbmagmcpnaaProg
import Derived.Test.YtdbobbmagmcpnaaNewShiftT
set_option linter.unusedVariables false
set_option linter.unusedSimpArgs false
namespace Go.Proofs.Ytdbobbmagmcpnaa
open Go.RowKit Go.X
theorem Try.follows : Try.prog.follows .mixedOrders = true := by kernel_rfl
theorem Try.ty3 : tyB Try.prog 3 = some (1, 8, some (.int .i64 (0)), false) := by kernel_rfl
theorem Try.ty4 : tyB Try.prog 4 = some (1, 1, some (.bool (false)), false) := by kernel_rfl
theorem Try.ty5 : tyB Try.prog 5 = some (1, 1, some (.int .u8 (0)), false) := by kernel_rfl
theorem Try.ty9 : tyB Try.prog 9 = some (1, 16, some (.string (bs (([] : Str)))), false) := by kernel_rfl
theorem Try.ty22 : tyB Try.prog 22 = some (1, 24, some (.slice none 0 0), false) := by kernel_rfl
theorem Try.ty23 : tyB Try.prog 23 = some (1, 24, some (.slice none 0 0), false) := by kernel_rfl
theorem Try.ty25 : tyB Try.prog 25 = some (3, 64, some (.agg #[.string (bs (([] : Str))), .slice none 0 0, .slice none 0 0]), true) := by kernel_rfl
theorem Try.ty31 : tyB Try.prog 31 = some (3, 40, some (.agg #[.string (bs (([] : Str))), .string (bs (([] : Str))), .bool (false)]), true) := by kernel_rfl
theorem Try.ty34 : tyB Try.prog 34 = some (1, 24, some (.slice none 0 0), false) := by kernel_rfl
theorem Try.ty36 : tyB Try.prog 36 = some (3, 64, some (.agg #[.string (bs (([] : Str))), .slice none 0 0, .slice none 0 0]), true) := by kernel_rfl
theorem Try.ty46 : tyB Try.prog 46 = some (1, 24, some (.slice none 0 0), false) := by kernel_rfl
theorem Try.ty47 : tyB Try.prog 47 = some (1, 24, some (.slice none 0 0), false) := by kernel_rfl
theorem Try.ty48 : tyB Try.prog 48 = some (1, 24, some (.slice none 0 0), false) := by kernel_rfl
theorem Try.ty50 : tyB Try.prog 50 = some (4, 88, some (.agg #[.string (bs (([] : Str))), .slice none 0 0, .slice none 0 0, .slice none 0 0]), true) := by kernel_rfl
theorem Try.ty111 : tyB Try.prog 111 = some (3, 40, some (.agg #[.string (bs (([] : Str))), .string (bs (([] : Str))), .bool (false)]), true) := by kernel_rfl
theorem Try.ty168 : tyB Try.prog 168 = some (3, 32, some (.agg #[.string (bs (([] : Str))), .int .i64 (0), .int .i64 (0)]), true) := by kernel_rfl
theorem Try.ty171 : tyB Try.prog 171 = some (3, 32, some (.agg #[.string (bs (([] : Str))), .int .i64 (0), .int .i64 (0)]), true) := by kernel_rfl
theorem Try.fd25_0 : fieldB Try.prog 25 0 = some (0, 0 + 1, false) := by kernel_rfl
theorem Try.fd25_1 : fieldB Try.prog 25 1 = some (1, 0 + 1, false) := by kernel_rfl
theorem Try.fd25_2 : fieldB Try.prog 25 2 = some (2, 0 + 1, false) := by kernel_rfl
theorem Try.fd31_0 : fieldB Try.prog 31 0 = some (0, 0 + 1, false) := by kernel_rfl
theorem Try.fd31_1 : fieldB Try.prog 31 1 = some (1, 0 + 1, false) := by kernel_rfl
theorem Try.fd31_2 : fieldB Try.prog 31 2 = some (2, 0 + 1, false) := by kernel_rfl
theorem Try.fd36_0 : fieldB Try.prog 36 0 = some (0, 0 + 1, false) := by kernel_rfl
theorem Try.fd36_1 : fieldB Try.prog 36 1 = some (1, 0 + 1, false) := by kernel_rfl
theorem Try.fd36_2 : fieldB Try.prog 36 2 = some (2, 0 + 1, false) := by kernel_rfl
theorem Try.fd50_0 : fieldB Try.prog 50 0 = some (0, 0 + 1, false) := by kernel_rfl
theorem Try.fd50_1 : fieldB Try.prog 50 1 = some (1, 0 + 1, false) := by kernel_rfl
theorem Try.fd50_2 : fieldB Try.prog 50 2 = some (2, 0 + 1, false) := by kernel_rfl
theorem Try.fd50_3 : fieldB Try.prog 50 3 = some (3, 0 + 1, false) := by kernel_rfl
theorem Try.fd111_0 : fieldB Try.prog 111 0 = some (0, 0 + 1, false) := by kernel_rfl
theorem Try.fd111_1 : fieldB Try.prog 111 1 = some (1, 0 + 1, false) := by kernel_rfl
theorem Try.fd111_2 : fieldB Try.prog 111 2 = some (2, 0 + 1, false) := by kernel_rfl
theorem Try.fd168_0 : fieldB Try.prog 168 0 = some (0, 0 + 1, false) := by kernel_rfl
theorem Try.fd168_1 : fieldB Try.prog 168 1 = some (1, 0 + 1, false) := by kernel_rfl
theorem Try.fd168_2 : fieldB Try.prog 168 2 = some (2, 0 + 1, false) := by kernel_rfl
theorem Try.fd171_0 : fieldB Try.prog 171 0 = some (0, 0 + 1, false) := by kernel_rfl
theorem Try.fd171_1 : fieldB Try.prog 171 1 = some (1, 0 + 1, false) := by kernel_rfl
theorem Try.fd171_2 : fieldB Try.prog 171 2 = some (2, 0 + 1, false) := by kernel_rfl
theorem Try.un3 : Try.prog.underlying 3 = some (.int .i64) := by kernel_rfl
theorem Try.un4 : Try.prog.underlying 4 = some (.bool) := by kernel_rfl
theorem Try.un5 : Try.prog.underlying 5 = some (.int .u8) := by kernel_rfl
theorem Try.un9 : Try.prog.underlying 9 = some (.string) := by kernel_rfl
theorem Try.un22 : Try.prog.underlying 22 = some (.slice 9) := by kernel_rfl
theorem Try.un23 : Try.prog.underlying 23 = some (.slice 168) := by kernel_rfl
theorem Try.un34 : Try.prog.underlying 34 = some (.slice 171) := by kernel_rfl
theorem Try.un44 : Try.prog.underlying 44 = some (.slice 111) := by kernel_rfl
theorem Try.un46 : Try.prog.underlying 46 = some (.slice 36) := by kernel_rfl
theorem Try.un47 : Try.prog.underlying 47 = some (.slice 3) := by kernel_rfl
theorem Try.un48 : Try.prog.underlying 48 = some (.slice 31) := by kernel_rfl
theorem Try.un181 : Try.prog.underlying 181 = some (.slice 5) := by kernel_rfl
theorem Try.ex233 : Ext Try.prog 233 Extern.BytealgIndexByte.indexByte := ⟨_, Try.func233, by kernel_rfl, by kernel_rfl, by kernel_rfl, by kernel_rfl⟩
theorem Try.en11 : Enters Try.prog 11 := ⟨_, Try.func11, rfl, by kernel_rfl⟩
theorem Try.en14 : Enters Try.prog 14 := ⟨_, Try.func14, rfl, by kernel_rfl⟩
theorem Try.en17 : Enters Try.prog 17 := ⟨_, Try.func17, rfl, by kernel_rfl⟩
theorem Try.en18 : Enters Try.prog 18 := ⟨_, Try.func18, rfl, by kernel_rfl⟩
theorem Try.en20 : Enters Try.prog 20 := ⟨_, Try.func20, rfl, by kernel_rfl⟩
theorem Try.en21 : Enters Try.prog 21 := ⟨_, Try.func21, rfl, by kernel_rfl⟩
theorem Try.en22 : Enters Try.prog 22 := ⟨_, Try.func22, rfl, by kernel_rfl⟩
theorem Try.en23 : Enters Try.prog 23 := ⟨_, Try.func23, rfl, by kernel_rfl⟩
theorem Try.en24 : Enters Try.prog 24 := ⟨_, Try.func24, rfl, by kernel_rfl⟩
theorem Try.en25 : Enters Try.prog 25 := ⟨_, Try.func25, rfl, by kernel_rfl⟩
theorem Try.en26 : Enters Try.prog 26 := ⟨_, Try.func26, rfl, by kernel_rfl⟩
theorem Try.en27 : Enters Try.prog 27 := ⟨_, Try.func27, rfl, by kernel_rfl⟩
theorem Try.en28 : Enters Try.prog 28 := ⟨_, Try.func28, rfl, by kernel_rfl⟩
theorem Try.en29 : Enters Try.prog 29 := ⟨_, Try.func29, rfl, by kernel_rfl⟩
theorem Try.en40 : Enters Try.prog 40 := ⟨_, Try.func40, rfl, by kernel_rfl⟩
theorem Try.en41 : Enters Try.prog 41 := ⟨_, Try.func41, rfl, by kernel_rfl⟩
theorem Try.en42 : Enters Try.prog 42 := ⟨_, Try.func42, rfl, by kernel_rfl⟩
theorem Try.en43 : Enters Try.prog 43 := ⟨_, Try.func43, rfl, by kernel_rfl⟩
theorem Try.en60 : Enters Try.prog 60 := ⟨_, Try.func60, rfl, by kernel_rfl⟩
theorem Try.en61 : Enters Try.prog 61 := ⟨_, Try.func61, rfl, by kernel_rfl⟩
theorem Try.en64 : Enters Try.prog 64 := ⟨_, Try.func64, rfl, by kernel_rfl⟩
theorem Try.en65 : Enters Try.prog 65 := ⟨_, Try.func65, rfl, by kernel_rfl⟩
theorem Try.en68 : Enters Try.prog 68 := ⟨_, Try.func68, rfl, by kernel_rfl⟩
theorem Try.en69 : Enters Try.prog 69 := ⟨_, Try.func69, rfl, by kernel_rfl⟩
theorem Try.en70 : Enters Try.prog 70 := ⟨_, Try.func70, rfl, by kernel_rfl⟩
theorem Try.en71 : Enters Try.prog 71 := ⟨_, Try.func71, rfl, by kernel_rfl⟩
theorem Try.en72 : Enters Try.prog 72 := ⟨_, Try.func72, rfl, by kernel_rfl⟩
theorem Try.en73 : Enters Try.prog 73 := ⟨_, Try.func73, rfl, by kernel_rfl⟩
theorem Try.en74 : Enters Try.prog 74 := ⟨_, Try.func74, rfl, by kernel_rfl⟩
theorem Try.en75 : Enters Try.prog 75 := ⟨_, Try.func75, rfl, by kernel_rfl⟩
theorem Try.en76 : Enters Try.prog 76 := ⟨_, Try.func76, rfl, by kernel_rfl⟩
theorem Try.en77 : Enters Try.prog 77 := ⟨_, Try.func77, rfl, by kernel_rfl⟩
theorem Try.en78 : Enters Try.prog 78 := ⟨_, Try.func78, rfl, by kernel_rfl⟩
theorem Try.en79 : Enters Try.prog 79 := ⟨_, Try.func79, rfl, by kernel_rfl⟩
theorem Try.en80 : Enters Try.prog 80 := ⟨_, Try.func80, rfl, by kernel_rfl⟩
theorem Try.en81 : Enters Try.prog 81 := ⟨_, Try.func81, rfl, by kernel_rfl⟩
theorem Try.en82 : Enters Try.prog 82 := ⟨_, Try.func82, rfl, by kernel_rfl⟩
theorem Try.en83 : Enters Try.prog 83 := ⟨_, Try.func83, rfl, by kernel_rfl⟩
theorem Try.en84 : Enters Try.prog 84 := ⟨_, Try.func84, rfl, by kernel_rfl⟩
theorem Try.en85 : Enters Try.prog 85 := ⟨_, Try.func85, rfl, by kernel_rfl⟩
theorem Try.en86 : Enters Try.prog 86 := ⟨_, Try.func86, rfl, by kernel_rfl⟩
theorem Try.en92 : Enters Try.prog 92 := ⟨_, Try.func92, rfl, by kernel_rfl⟩
theorem Try.en93 : Enters Try.prog 93 := ⟨_, Try.func93, rfl, by kernel_rfl⟩
theorem Try.en94 : Enters Try.prog 94 := ⟨_, Try.func94, rfl, by kernel_rfl⟩
theorem Try.en95 : Enters Try.prog 95 := ⟨_, Try.func95, rfl, by kernel_rfl⟩
theorem Try.en96 : Enters Try.prog 96 := ⟨_, Try.func96, rfl, by kernel_rfl⟩
theorem Try.en125 : Enters Try.prog 125 := ⟨_, Try.func125, rfl, by kernel_rfl⟩
theorem Try.en126 : Enters Try.prog 126 := ⟨_, Try.func126, rfl, by kernel_rfl⟩
theorem Try.en129 : Enters Try.prog 129 := ⟨_, Try.func129, rfl, by kernel_rfl⟩
theorem Try.en130 : Enters Try.prog 130 := ⟨_, Try.func130, rfl, by kernel_rfl⟩
theorem Try.en133 : Enters Try.prog 133 := ⟨_, Try.func133, rfl, by kernel_rfl⟩
theorem Try.en134 : Enters Try.prog 134 := ⟨_, Try.func134, rfl, by kernel_rfl⟩
theorem Try.en135 : Enters Try.prog 135 := ⟨_, Try.func135, rfl, by kernel_rfl⟩
theorem Try.en136 : Enters Try.prog 136 := ⟨_, Try.func136, rfl, by kernel_rfl⟩
theorem Try.en137 : Enters Try.prog 137 := ⟨_, Try.func137, rfl, by kernel_rfl⟩
theorem Try.en138 : Enters Try.prog 138 := ⟨_, Try.func138, rfl, by kernel_rfl⟩
theorem Try.en139 : Enters Try.prog 139 := ⟨_, Try.func139, rfl, by kernel_rfl⟩
theorem Try.en140 : Enters Try.prog 140 := ⟨_, Try.func140, rfl, by kernel_rfl⟩
theorem Try.en141 : Enters Try.prog 141 := ⟨_, Try.func141, rfl, by kernel_rfl⟩
theorem Try.en143 : Enters Try.prog 143 := ⟨_, Try.func143, rfl, by kernel_rfl⟩
theorem Try.en144 : Enters Try.prog 144 := ⟨_, Try.func144, rfl, by kernel_rfl⟩
theorem Try.en145 : Enters Try.prog 145 := ⟨_, Try.func145, rfl, by kernel_rfl⟩
theorem Try.en146 : Enters Try.prog 146 := ⟨_, Try.func146, rfl, by kernel_rfl⟩
theorem Try.en168 : Enters Try.prog 168 := ⟨_, Try.func168, rfl, by kernel_rfl⟩
theorem Try.en172 : Enters Try.prog 172 := ⟨_, Try.func172, rfl, by kernel_rfl⟩
theorem Try.en173 : Enters Try.prog 173 := ⟨_, Try.func173, rfl, by kernel_rfl⟩
theorem Try.en175 : Enters Try.prog 175 := ⟨_, Try.func175, rfl, by kernel_rfl⟩
theorem Try.en176 : Enters Try.prog 176 := ⟨_, Try.func176, rfl, by kernel_rfl⟩
theorem Try.en183 : Enters Try.prog 183 := ⟨_, Try.func183, rfl, by kernel_rfl⟩
theorem Try.en184 : Enters Try.prog 184 := ⟨_, Try.func184, rfl, by kernel_rfl⟩
theorem Try.en185 : Enters Try.prog 185 := ⟨_, Try.func185, rfl, by kernel_rfl⟩
theorem Try.en186 : Enters Try.prog 186 := ⟨_, Try.func186, rfl, by kernel_rfl⟩
theorem Try.en187 : Enters Try.prog 187 := ⟨_, Try.func187, rfl, by kernel_rfl⟩
theorem Try.en189 : Enters Try.prog 189 := ⟨_, Try.func189, rfl, by kernel_rfl⟩
theorem Try.en190 : Enters Try.prog 190 := ⟨_, Try.func190, rfl, by kernel_rfl⟩
theorem Try.en191 : Enters Try.prog 191 := ⟨_, Try.func191, rfl, by kernel_rfl⟩
theorem Try.en192 : Enters Try.prog 192 := ⟨_, Try.func192, rfl, by kernel_rfl⟩
theorem Try.en207 : Enters Try.prog 207 := ⟨_, Try.func207, rfl, by kernel_rfl⟩
theorem Try.en209 : Enters Try.prog 209 := ⟨_, Try.func209, rfl, by kernel_rfl⟩
theorem Try.en210 : Enters Try.prog 210 := ⟨_, Try.func210, rfl, by kernel_rfl⟩
theorem Try.en211 : Enters Try.prog 211 := ⟨_, Try.func211, rfl, by kernel_rfl⟩
theorem Try.en213 : Enters Try.prog 213 := ⟨_, Try.func213, rfl, by kernel_rfl⟩
theorem Try.en216 : Enters Try.prog 216 := ⟨_, Try.func216, rfl, by kernel_rfl⟩
theorem Try.en217 : Enters Try.prog 217 := ⟨_, Try.func217, rfl, by kernel_rfl⟩
theorem Try.en218 : Enters Try.prog 218 := ⟨_, Try.func218, rfl, by kernel_rfl⟩
theorem Try.en223 : Enters Try.prog 223 := ⟨_, Try.func223, rfl, by kernel_rfl⟩
theorem Try.en224 : Enters Try.prog 224 := ⟨_, Try.func224, rfl, by kernel_rfl⟩
theorem Try.en230 : Enters Try.prog 230 := ⟨_, Try.func230, rfl, by kernel_rfl⟩
end Go.Proofs.Ytdbobbmagmcpnaa
