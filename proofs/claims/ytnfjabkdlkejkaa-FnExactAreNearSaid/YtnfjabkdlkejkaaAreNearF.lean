/- Are Near: facts of the types and functions of the translation. -/
import Derived.Test.YtnfjabkdlkejkaaProg
import Derived.Test.YtnfjabkdlkejkaaE10
set_option linter.unusedVariables false
set_option linter.unusedSimpArgs false
namespace Go.Proofs.Ytnfjabkdlkejkaa
open Go.RowKit Go.X
theorem Try.follows : Try.prog.follows .mixedOrders = true := by kernel_rfl
theorem Try.ty3 : tyB Try.prog 3 = some (1, 8, some (.int .i64 (0)), false) := by kernel_rfl
theorem Try.ty33 : tyB Try.prog 33 = some (1, 8, some (.agg #[.int .i64 (0)]), true) := by kernel_rfl
theorem Try.ty34 : tyB Try.prog 34 = some (1, 24, some (.slice none 0 0), false) := by kernel_rfl
theorem Try.ty35 : tyB Try.prog 35 = some (1, 24, some (.slice none 0 0), false) := by kernel_rfl
theorem Try.ty37 : tyB Try.prog 37 = some (5, 72, some (.agg #[.int .i64 (0), .int .i64 (0), .slice none 0 0, .int .i64 (0), .slice none 0 0]), true) := by kernel_rfl
theorem Try.ty42 : tyB Try.prog 42 = some (1, 8, some (.agg #[.int .i64 (0)]), true) := by kernel_rfl
theorem Try.ty43 : tyB Try.prog 43 = some (1, 24, some (.slice none 0 0), false) := by kernel_rfl
theorem Try.ty44 : tyB Try.prog 44 = some (1, 24, some (.slice none 0 0), false) := by kernel_rfl
theorem Try.ty46 : tyB Try.prog 46 = some (5, 72, some (.agg #[.int .i64 (0), .int .i64 (0), .slice none 0 0, .int .i64 (0), .slice none 0 0]), true) := by kernel_rfl
theorem Try.ty103 : tyB Try.prog 103 = some (2, 16, some (.agg #[.int .i64 (0), .int .i64 (0)]), true) := by kernel_rfl
theorem Try.ty129 : tyB Try.prog 129 = some (2, 16, some (.agg #[.int .i64 (0), .int .i64 (0)]), true) := by kernel_rfl
theorem Try.ty134 : tyB Try.prog 134 = some (2, 16, some (.agg #[.int .i64 (0), .int .i64 (0)]), true) := by kernel_rfl
theorem Try.fd33_0 : fieldB Try.prog 33 0 = some (0, 0 + 1, false) := by kernel_rfl
theorem Try.fd37_0 : fieldB Try.prog 37 0 = some (0, 0 + 1, false) := by kernel_rfl
theorem Try.fd37_1 : fieldB Try.prog 37 1 = some (1, 0 + 1, true) := by kernel_rfl
theorem Try.fd37_2 : fieldB Try.prog 37 2 = some (2, 0 + 1, false) := by kernel_rfl
theorem Try.fd37_3 : fieldB Try.prog 37 3 = some (3, 0 + 1, false) := by kernel_rfl
theorem Try.fd37_4 : fieldB Try.prog 37 4 = some (4, 0 + 1, false) := by kernel_rfl
theorem Try.fd42_0 : fieldB Try.prog 42 0 = some (0, 0 + 1, false) := by kernel_rfl
theorem Try.fd46_0 : fieldB Try.prog 46 0 = some (0, 0 + 1, false) := by kernel_rfl
theorem Try.fd46_1 : fieldB Try.prog 46 1 = some (1, 0 + 1, true) := by kernel_rfl
theorem Try.fd46_2 : fieldB Try.prog 46 2 = some (2, 0 + 1, false) := by kernel_rfl
theorem Try.fd46_3 : fieldB Try.prog 46 3 = some (3, 0 + 1, false) := by kernel_rfl
theorem Try.fd46_4 : fieldB Try.prog 46 4 = some (4, 0 + 1, false) := by kernel_rfl
theorem Try.fd103_0 : fieldB Try.prog 103 0 = some (0, 0 + 1, false) := by kernel_rfl
theorem Try.fd103_1 : fieldB Try.prog 103 1 = some (1, 0 + 1, false) := by kernel_rfl
theorem Try.fd129_0 : fieldB Try.prog 129 0 = some (0, 0 + 1, false) := by kernel_rfl
theorem Try.fd129_1 : fieldB Try.prog 129 1 = some (1, 0 + 1, false) := by kernel_rfl
theorem Try.fd134_1 : fieldB Try.prog 134 1 = some (1, 0 + 1, false) := by kernel_rfl
theorem Try.un4 : Try.prog.underlying 4 = some (.bool) := by kernel_rfl
theorem Try.un34 : Try.prog.underlying 34 = some (.slice 33) := by kernel_rfl
theorem Try.un35 : Try.prog.underlying 35 = some (.slice 103) := by kernel_rfl
theorem Try.un43 : Try.prog.underlying 43 = some (.slice 42) := by kernel_rfl
theorem Try.un44 : Try.prog.underlying 44 = some (.slice 129) := by kernel_rfl
theorem Try.un112 : Try.prog.underlying 112 = some (.slice 3) := by kernel_rfl
theorem Try.en21 : Enters Try.prog 21 := ⟨_, Try.func21, rfl, by kernel_rfl⟩
theorem Try.en24 : Enters Try.prog 24 := ⟨_, Try.func24, rfl, by kernel_rfl⟩
theorem Try.en25 : Enters Try.prog 25 := ⟨_, Try.func25, rfl, by kernel_rfl⟩
theorem Try.en26 : Enters Try.prog 26 := ⟨_, Try.func26, rfl, by kernel_rfl⟩
theorem Try.en27 : Enters Try.prog 27 := ⟨_, Try.func27, rfl, by kernel_rfl⟩
theorem Try.en35 : Enters Try.prog 35 := ⟨_, Try.func35, rfl, by kernel_rfl⟩
theorem Try.en36 : Enters Try.prog 36 := ⟨_, Try.func36, rfl, by kernel_rfl⟩
theorem Try.en50 : Enters Try.prog 50 := ⟨_, Try.func50, rfl, by kernel_rfl⟩
theorem Try.en56 : Enters Try.prog 56 := ⟨_, Try.func56, rfl, by kernel_rfl⟩
theorem Try.en57 : Enters Try.prog 57 := ⟨_, Try.func57, rfl, by kernel_rfl⟩
theorem Try.en58 : Enters Try.prog 58 := ⟨_, Try.func58, rfl, by kernel_rfl⟩
theorem Try.en59 : Enters Try.prog 59 := ⟨_, Try.func59, rfl, by kernel_rfl⟩
theorem Try.en64 : Enters Try.prog 64 := ⟨_, Try.func64, rfl, by kernel_rfl⟩
theorem Try.en65 : Enters Try.prog 65 := ⟨_, Try.func65, rfl, by kernel_rfl⟩
theorem Try.en66 : Enters Try.prog 66 := ⟨_, Try.func66, rfl, by kernel_rfl⟩
theorem Try.en67 : Enters Try.prog 67 := ⟨_, Try.func67, rfl, by kernel_rfl⟩
theorem Try.en68 : Enters Try.prog 68 := ⟨_, Try.func68, rfl, by kernel_rfl⟩
theorem Try.en69 : Enters Try.prog 69 := ⟨_, Try.func69, rfl, by kernel_rfl⟩
theorem Try.en70 : Enters Try.prog 70 := ⟨_, Try.func70, rfl, by kernel_rfl⟩
theorem Try.en71 : Enters Try.prog 71 := ⟨_, Try.func71, rfl, by kernel_rfl⟩
theorem Try.en72 : Enters Try.prog 72 := ⟨_, Try.func72, rfl, by kernel_rfl⟩
theorem Try.en73 : Enters Try.prog 73 := ⟨_, Try.func73, rfl, by kernel_rfl⟩
theorem Try.en74 : Enters Try.prog 74 := ⟨_, Try.func74, rfl, by kernel_rfl⟩
theorem Try.en75 : Enters Try.prog 75 := ⟨_, Try.func75, rfl, by kernel_rfl⟩
theorem Try.en77 : Enters Try.prog 77 := ⟨_, Try.func77, rfl, by kernel_rfl⟩
theorem Try.en78 : Enters Try.prog 78 := ⟨_, Try.func78, rfl, by kernel_rfl⟩
theorem Try.en81 : Enters Try.prog 81 := ⟨_, Try.func81, rfl, by kernel_rfl⟩
theorem Try.en82 : Enters Try.prog 82 := ⟨_, Try.func82, rfl, by kernel_rfl⟩
theorem Try.en101 : Enters Try.prog 101 := ⟨_, Try.func101, rfl, by kernel_rfl⟩
theorem Try.en102 : Enters Try.prog 102 := ⟨_, Try.func102, rfl, by kernel_rfl⟩
theorem Try.en103 : Enters Try.prog 103 := ⟨_, Try.func103, rfl, by kernel_rfl⟩
theorem Try.en104 : Enters Try.prog 104 := ⟨_, Try.func104, rfl, by kernel_rfl⟩
theorem Try.en105 : Enters Try.prog 105 := ⟨_, Try.func105, rfl, by kernel_rfl⟩
theorem Try.en106 : Enters Try.prog 106 := ⟨_, Try.func106, rfl, by kernel_rfl⟩
theorem Try.en107 : Enters Try.prog 107 := ⟨_, Try.func107, rfl, by kernel_rfl⟩
end Go.Proofs.Ytnfjabkdlkejkaa
