/- Put Back: facts of the types and functions of the translation. -/
import Derived.Test.YtdbobbmagmcpnaaProg
import Derived.Test.YtdbobbmagmcpnaaPutBackT
set_option linter.unusedVariables false
set_option linter.unusedSimpArgs false
namespace Go.Proofs.Ytdbobbmagmcpnaa
open Go.RowKit Go.X
theorem Try.follows : Try.prog.follows .mixedOrders = true := by kernel_rfl
theorem Try.ty3 : tyB Try.prog 3 = some (1, 8, some (.int .i64 (0)), false) := by kernel_rfl
theorem Try.ty4 : tyB Try.prog 4 = some (1, 1, some (.bool (false)), false) := by kernel_rfl
theorem Try.ty5 : tyB Try.prog 5 = some (1, 1, some (.int .u8 (0)), false) := by kernel_rfl
theorem Try.ty9 : tyB Try.prog 9 = some (1, 16, some (.string (bs (([] : Str)))), false) := by kernel_rfl
theorem Try.ty31 : tyB Try.prog 31 = some (3, 40, some (.agg #[.string (bs (([] : Str))), .string (bs (([] : Str))), .bool (false)]), true) := by kernel_rfl
theorem Try.ty44 : tyB Try.prog 44 = some (1, 24, some (.slice none 0 0), false) := by kernel_rfl
theorem Try.ty48 : tyB Try.prog 48 = some (1, 24, some (.slice none 0 0), false) := by kernel_rfl
theorem Try.ty61 : tyB Try.prog 61 = some (2, 32, some (.agg #[.int .i64 (0), .slice none 0 0]), true) := by kernel_rfl
theorem Try.ty67 : tyB Try.prog 67 = some (2, 32, some (.agg #[.int .i64 (0), .slice none 0 0]), true) := by kernel_rfl
theorem Try.ty111 : tyB Try.prog 111 = some (3, 40, some (.agg #[.string (bs (([] : Str))), .string (bs (([] : Str))), .bool (false)]), true) := by kernel_rfl
theorem Try.ty125 : tyB Try.prog 125 = some (3, 32, some (.agg #[.int .i64 (0), .string (bs (([] : Str))), .bool (false)]), true) := by kernel_rfl
theorem Try.ty126 : tyB Try.prog 126 = some (1, 24, some (.slice none 0 0), false) := by kernel_rfl
theorem Try.ty128 : tyB Try.prog 128 = some (2, 40, some (.agg #[.string (bs (([] : Str))), .slice none 0 0]), true) := by kernel_rfl
theorem Try.fd31_0 : fieldB Try.prog 31 0 = some (0, 0 + 1, false) := by kernel_rfl
theorem Try.fd31_1 : fieldB Try.prog 31 1 = some (1, 0 + 1, false) := by kernel_rfl
theorem Try.fd31_2 : fieldB Try.prog 31 2 = some (2, 0 + 1, false) := by kernel_rfl
theorem Try.fd61_0 : fieldB Try.prog 61 0 = some (0, 0 + 1, false) := by kernel_rfl
theorem Try.fd61_1 : fieldB Try.prog 61 1 = some (1, 0 + 1, false) := by kernel_rfl
theorem Try.fd67_0 : fieldB Try.prog 67 0 = some (0, 0 + 1, false) := by kernel_rfl
theorem Try.fd67_1 : fieldB Try.prog 67 1 = some (1, 0 + 1, false) := by kernel_rfl
theorem Try.fd111_0 : fieldB Try.prog 111 0 = some (0, 0 + 1, false) := by kernel_rfl
theorem Try.fd111_1 : fieldB Try.prog 111 1 = some (1, 0 + 1, false) := by kernel_rfl
theorem Try.fd111_2 : fieldB Try.prog 111 2 = some (2, 0 + 1, false) := by kernel_rfl
theorem Try.fd125_0 : fieldB Try.prog 125 0 = some (0, 0 + 1, false) := by kernel_rfl
theorem Try.fd125_1 : fieldB Try.prog 125 1 = some (1, 0 + 1, false) := by kernel_rfl
theorem Try.fd125_2 : fieldB Try.prog 125 2 = some (2, 0 + 1, false) := by kernel_rfl
theorem Try.fd128_0 : fieldB Try.prog 128 0 = some (0, 0 + 1, false) := by kernel_rfl
theorem Try.fd128_1 : fieldB Try.prog 128 1 = some (1, 0 + 1, false) := by kernel_rfl
theorem Try.un3 : Try.prog.underlying 3 = some (.int .i64) := by kernel_rfl
theorem Try.un4 : Try.prog.underlying 4 = some (.bool) := by kernel_rfl
theorem Try.un5 : Try.prog.underlying 5 = some (.int .u8) := by kernel_rfl
theorem Try.un9 : Try.prog.underlying 9 = some (.string) := by kernel_rfl
theorem Try.un22 : Try.prog.underlying 22 = some (.slice 9) := by kernel_rfl
theorem Try.un44 : Try.prog.underlying 44 = some (.slice 111) := by kernel_rfl
theorem Try.un48 : Try.prog.underlying 48 = some (.slice 31) := by kernel_rfl
theorem Try.un63 : Try.prog.underlying 63 = some (.slice 128) := by kernel_rfl
theorem Try.un126 : Try.prog.underlying 126 = some (.slice 125) := by kernel_rfl
theorem Try.un181 : Try.prog.underlying 181 = some (.slice 5) := by kernel_rfl
theorem Try.ex233 : Ext Try.prog 233 Extern.BytealgIndexByte.indexByte := ⟨_, Try.func233, by kernel_rfl, by kernel_rfl, by kernel_rfl, by kernel_rfl⟩
theorem Try.en17 : Enters Try.prog 17 := ⟨_, Try.func17, rfl, by kernel_rfl⟩
theorem Try.en20 : Enters Try.prog 20 := ⟨_, Try.func20, rfl, by kernel_rfl⟩
theorem Try.en22 : Enters Try.prog 22 := ⟨_, Try.func22, rfl, by kernel_rfl⟩
theorem Try.en25 : Enters Try.prog 25 := ⟨_, Try.func25, rfl, by kernel_rfl⟩
theorem Try.en27 : Enters Try.prog 27 := ⟨_, Try.func27, rfl, by kernel_rfl⟩
theorem Try.en30 : Enters Try.prog 30 := ⟨_, Try.func30, rfl, by kernel_rfl⟩
theorem Try.en31 : Enters Try.prog 31 := ⟨_, Try.func31, rfl, by kernel_rfl⟩
theorem Try.en32 : Enters Try.prog 32 := ⟨_, Try.func32, rfl, by kernel_rfl⟩
theorem Try.en33 : Enters Try.prog 33 := ⟨_, Try.func33, rfl, by kernel_rfl⟩
theorem Try.en34 : Enters Try.prog 34 := ⟨_, Try.func34, rfl, by kernel_rfl⟩
theorem Try.en35 : Enters Try.prog 35 := ⟨_, Try.func35, rfl, by kernel_rfl⟩
theorem Try.en36 : Enters Try.prog 36 := ⟨_, Try.func36, rfl, by kernel_rfl⟩
theorem Try.en37 : Enters Try.prog 37 := ⟨_, Try.func37, rfl, by kernel_rfl⟩
theorem Try.en38 : Enters Try.prog 38 := ⟨_, Try.func38, rfl, by kernel_rfl⟩
theorem Try.en70 : Enters Try.prog 70 := ⟨_, Try.func70, rfl, by kernel_rfl⟩
theorem Try.en72 : Enters Try.prog 72 := ⟨_, Try.func72, rfl, by kernel_rfl⟩
theorem Try.en76 : Enters Try.prog 76 := ⟨_, Try.func76, rfl, by kernel_rfl⟩
theorem Try.en77 : Enters Try.prog 77 := ⟨_, Try.func77, rfl, by kernel_rfl⟩
theorem Try.en78 : Enters Try.prog 78 := ⟨_, Try.func78, rfl, by kernel_rfl⟩
theorem Try.en83 : Enters Try.prog 83 := ⟨_, Try.func83, rfl, by kernel_rfl⟩
theorem Try.en87 : Enters Try.prog 87 := ⟨_, Try.func87, rfl, by kernel_rfl⟩
theorem Try.en88 : Enters Try.prog 88 := ⟨_, Try.func88, rfl, by kernel_rfl⟩
theorem Try.en89 : Enters Try.prog 89 := ⟨_, Try.func89, rfl, by kernel_rfl⟩
theorem Try.en90 : Enters Try.prog 90 := ⟨_, Try.func90, rfl, by kernel_rfl⟩
theorem Try.en91 : Enters Try.prog 91 := ⟨_, Try.func91, rfl, by kernel_rfl⟩
theorem Try.en119 : Enters Try.prog 119 := ⟨_, Try.func119, rfl, by kernel_rfl⟩
theorem Try.en135 : Enters Try.prog 135 := ⟨_, Try.func135, rfl, by kernel_rfl⟩
theorem Try.en139 : Enters Try.prog 139 := ⟨_, Try.func139, rfl, by kernel_rfl⟩
theorem Try.en140 : Enters Try.prog 140 := ⟨_, Try.func140, rfl, by kernel_rfl⟩
theorem Try.en141 : Enters Try.prog 141 := ⟨_, Try.func141, rfl, by kernel_rfl⟩
theorem Try.en142 : Enters Try.prog 142 := ⟨_, Try.func142, rfl, by kernel_rfl⟩
theorem Try.en168 : Enters Try.prog 168 := ⟨_, Try.func168, rfl, by kernel_rfl⟩
theorem Try.en183 : Enters Try.prog 183 := ⟨_, Try.func183, rfl, by kernel_rfl⟩
theorem Try.en184 : Enters Try.prog 184 := ⟨_, Try.func184, rfl, by kernel_rfl⟩
theorem Try.en185 : Enters Try.prog 185 := ⟨_, Try.func185, rfl, by kernel_rfl⟩
theorem Try.en186 : Enters Try.prog 186 := ⟨_, Try.func186, rfl, by kernel_rfl⟩
theorem Try.en187 : Enters Try.prog 187 := ⟨_, Try.func187, rfl, by kernel_rfl⟩
theorem Try.en188 : Enters Try.prog 188 := ⟨_, Try.func188, rfl, by kernel_rfl⟩
theorem Try.en207 : Enters Try.prog 207 := ⟨_, Try.func207, rfl, by kernel_rfl⟩
theorem Try.en210 : Enters Try.prog 210 := ⟨_, Try.func210, rfl, by kernel_rfl⟩
theorem Try.en213 : Enters Try.prog 213 := ⟨_, Try.func213, rfl, by kernel_rfl⟩
theorem Try.en216 : Enters Try.prog 216 := ⟨_, Try.func216, rfl, by kernel_rfl⟩
theorem Try.en217 : Enters Try.prog 217 := ⟨_, Try.func217, rfl, by kernel_rfl⟩
theorem Try.en218 : Enters Try.prog 218 := ⟨_, Try.func218, rfl, by kernel_rfl⟩
theorem Try.en223 : Enters Try.prog 223 := ⟨_, Try.func223, rfl, by kernel_rfl⟩
theorem Try.en224 : Enters Try.prog 224 := ⟨_, Try.func224, rfl, by kernel_rfl⟩
theorem Try.en230 : Enters Try.prog 230 := ⟨_, Try.func230, rfl, by kernel_rfl⟩
end Go.Proofs.Ytdbobbmagmcpnaa
