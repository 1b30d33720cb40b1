/- Need Of: facts of the types and functions of the translation. -/
import Derived.Test.YtfmepgbpbbneaaaProg
import Derived.Test.YtfmepgbpbbneaaaNeedOfT
set_option linter.unusedVariables false
set_option linter.unusedSimpArgs false
namespace Go.Proofs.Ytfmepgbpbbneaaa
open Go.RowKit Go.X
theorem Try.follows : Try.prog.follows .mixedOrders = true := by kernel_rfl
theorem Try.ty3 : tyB Try.prog 3 = some (1, 8, some (.int .i64 (0)), false) := by kernel_rfl
theorem Try.ty4 : tyB Try.prog 4 = some (1, 1, some (.bool (false)), false) := by kernel_rfl
theorem Try.ty9 : tyB Try.prog 9 = some (1, 16, some (.string (bs (([] : Str)))), false) := by kernel_rfl
theorem Try.ty45 : tyB Try.prog 45 = some (1, 24, some (.slice none 0 0), false) := by kernel_rfl
theorem Try.ty46 : tyB Try.prog 46 = some (1, 24, some (.slice none 0 0), false) := by kernel_rfl
theorem Try.ty48 : tyB Try.prog 48 = some (3, 64, some (.agg #[.string (bs (([] : Str))), .slice none 0 0, .slice none 0 0]), true) := by kernel_rfl
theorem Try.ty54 : tyB Try.prog 54 = some (3, 40, some (.agg #[.string (bs (([] : Str))), .string (bs (([] : Str))), .bool (false)]), true) := by kernel_rfl
theorem Try.ty57 : tyB Try.prog 57 = some (1, 24, some (.slice none 0 0), false) := by kernel_rfl
theorem Try.ty59 : tyB Try.prog 59 = some (3, 64, some (.agg #[.string (bs (([] : Str))), .slice none 0 0, .slice none 0 0]), true) := by kernel_rfl
theorem Try.ty80 : tyB Try.prog 80 = some (1, 24, some (.slice none 0 0), false) := by kernel_rfl
theorem Try.ty81 : tyB Try.prog 81 = some (1, 24, some (.slice none 0 0), false) := by kernel_rfl
theorem Try.ty82 : tyB Try.prog 82 = some (1, 24, some (.slice none 0 0), false) := by kernel_rfl
theorem Try.ty84 : tyB Try.prog 84 = some (4, 88, some (.agg #[.string (bs (([] : Str))), .slice none 0 0, .slice none 0 0, .slice none 0 0]), true) := by kernel_rfl
theorem Try.ty88 : tyB Try.prog 88 = some (1, 24, some (.slice none 0 0), false) := by kernel_rfl
theorem Try.ty89 : tyB Try.prog 89 = some (1, 24, some (.slice none 0 0), false) := by kernel_rfl
theorem Try.ty91 : tyB Try.prog 91 = some (4, 88, some (.agg #[.string (bs (([] : Str))), .slice none 0 0, .slice none 0 0, .slice none 0 0]), true) := by kernel_rfl
theorem Try.ty149 : tyB Try.prog 149 = some (3, 40, some (.agg #[.string (bs (([] : Str))), .string (bs (([] : Str))), .bool (false)]), true) := by kernel_rfl
theorem Try.ty174 : tyB Try.prog 174 = some (3, 32, some (.agg #[.string (bs (([] : Str))), .int .i64 (0), .int .i64 (0)]), true) := by kernel_rfl
theorem Try.ty177 : tyB Try.prog 177 = some (3, 32, some (.agg #[.string (bs (([] : Str))), .int .i64 (0), .int .i64 (0)]), true) := by kernel_rfl
theorem Try.fd48_0 : fieldB Try.prog 48 0 = some (0, 0 + 1, false) := by kernel_rfl
theorem Try.fd48_1 : fieldB Try.prog 48 1 = some (1, 0 + 1, false) := by kernel_rfl
theorem Try.fd48_2 : fieldB Try.prog 48 2 = some (2, 0 + 1, false) := by kernel_rfl
theorem Try.fd54_0 : fieldB Try.prog 54 0 = some (0, 0 + 1, false) := by kernel_rfl
theorem Try.fd54_1 : fieldB Try.prog 54 1 = some (1, 0 + 1, false) := by kernel_rfl
theorem Try.fd54_2 : fieldB Try.prog 54 2 = some (2, 0 + 1, false) := by kernel_rfl
theorem Try.fd59_0 : fieldB Try.prog 59 0 = some (0, 0 + 1, false) := by kernel_rfl
theorem Try.fd59_1 : fieldB Try.prog 59 1 = some (1, 0 + 1, false) := by kernel_rfl
theorem Try.fd59_2 : fieldB Try.prog 59 2 = some (2, 0 + 1, false) := by kernel_rfl
theorem Try.fd84_0 : fieldB Try.prog 84 0 = some (0, 0 + 1, false) := by kernel_rfl
theorem Try.fd84_1 : fieldB Try.prog 84 1 = some (1, 0 + 1, false) := by kernel_rfl
theorem Try.fd84_2 : fieldB Try.prog 84 2 = some (2, 0 + 1, false) := by kernel_rfl
theorem Try.fd84_3 : fieldB Try.prog 84 3 = some (3, 0 + 1, false) := by kernel_rfl
theorem Try.fd91_0 : fieldB Try.prog 91 0 = some (0, 0 + 1, false) := by kernel_rfl
theorem Try.fd91_1 : fieldB Try.prog 91 1 = some (1, 0 + 1, false) := by kernel_rfl
theorem Try.fd91_2 : fieldB Try.prog 91 2 = some (2, 0 + 1, false) := by kernel_rfl
theorem Try.fd91_3 : fieldB Try.prog 91 3 = some (3, 0 + 1, false) := by kernel_rfl
theorem Try.fd149_0 : fieldB Try.prog 149 0 = some (0, 0 + 1, false) := by kernel_rfl
theorem Try.fd149_1 : fieldB Try.prog 149 1 = some (1, 0 + 1, false) := by kernel_rfl
theorem Try.fd149_2 : fieldB Try.prog 149 2 = some (2, 0 + 1, false) := by kernel_rfl
theorem Try.fd174_0 : fieldB Try.prog 174 0 = some (0, 0 + 1, false) := by kernel_rfl
theorem Try.fd174_1 : fieldB Try.prog 174 1 = some (1, 0 + 1, false) := by kernel_rfl
theorem Try.fd174_2 : fieldB Try.prog 174 2 = some (2, 0 + 1, false) := by kernel_rfl
theorem Try.fd177_0 : fieldB Try.prog 177 0 = some (0, 0 + 1, false) := by kernel_rfl
theorem Try.fd177_1 : fieldB Try.prog 177 1 = some (1, 0 + 1, false) := by kernel_rfl
theorem Try.fd177_2 : fieldB Try.prog 177 2 = some (2, 0 + 1, false) := by kernel_rfl
theorem Try.un4 : Try.prog.underlying 4 = some (.bool) := by kernel_rfl
theorem Try.un9 : Try.prog.underlying 9 = some (.string) := by kernel_rfl
theorem Try.un45 : Try.prog.underlying 45 = some (.slice 9) := by kernel_rfl
theorem Try.un46 : Try.prog.underlying 46 = some (.slice 174) := by kernel_rfl
theorem Try.un57 : Try.prog.underlying 57 = some (.slice 177) := by kernel_rfl
theorem Try.un80 : Try.prog.underlying 80 = some (.slice 48) := by kernel_rfl
theorem Try.un81 : Try.prog.underlying 81 = some (.slice 3) := by kernel_rfl
theorem Try.un82 : Try.prog.underlying 82 = some (.slice 149) := by kernel_rfl
theorem Try.un88 : Try.prog.underlying 88 = some (.slice 59) := by kernel_rfl
theorem Try.un89 : Try.prog.underlying 89 = some (.slice 54) := by kernel_rfl
theorem Try.ae177 {x y : DIdx} : AggEq Try.prog 177 (e_Idx x) (e_Idx y) ((x.Name == y.Name) && (decide (x.Col = y.Col) && decide (x.Stage = y.Stage))) := by
  refine ⟨by kernel_rfl, fun w => ?_⟩
  have u3 := Try.underlying3; have a3 := Try.isAgg3; have z3 := Try.sizeOf3
  have u9 := Try.underlying9; have a9 := Try.isAgg9; have z9 := Try.sizeOf9
  rw [run_equalIn_struct w 9999 177 _ _ (by kernel_rfl) (by kernel_rfl)]
  simp only [Program.fieldsOf, Try.underlying177, e_Idx, List.toArray]
  go_simp
  simp only [bs_toList]
  by_cases h0 : x.Name = y.Name <;> by_cases h1 : x.Col = y.Col <;> by_cases h2 : x.Stage = y.Stage <;> simp [h0, h1, h2]
theorem Try.ex237 : Ext Try.prog 237 Extern.BytealgIndexByte.indexByte := ⟨_, Try.func237, by kernel_rfl, by kernel_rfl, by kernel_rfl, by kernel_rfl⟩
theorem Try.en20 : Enters Try.prog 20 := ⟨_, Try.func20, rfl, by kernel_rfl⟩
theorem Try.en23 : Enters Try.prog 23 := ⟨_, Try.func23, rfl, by kernel_rfl⟩
theorem Try.en26 : Enters Try.prog 26 := ⟨_, Try.func26, rfl, by kernel_rfl⟩
theorem Try.en27 : Enters Try.prog 27 := ⟨_, Try.func27, rfl, by kernel_rfl⟩
theorem Try.en34 : Enters Try.prog 34 := ⟨_, Try.func34, rfl, by kernel_rfl⟩
theorem Try.en36 : Enters Try.prog 36 := ⟨_, Try.func36, rfl, by kernel_rfl⟩
theorem Try.en38 : Enters Try.prog 38 := ⟨_, Try.func38, rfl, by kernel_rfl⟩
theorem Try.en39 : Enters Try.prog 39 := ⟨_, Try.func39, rfl, by kernel_rfl⟩
theorem Try.en40 : Enters Try.prog 40 := ⟨_, Try.func40, rfl, by kernel_rfl⟩
theorem Try.en41 : Enters Try.prog 41 := ⟨_, Try.func41, rfl, by kernel_rfl⟩
theorem Try.en43 : Enters Try.prog 43 := ⟨_, Try.func43, rfl, by kernel_rfl⟩
theorem Try.en45 : Enters Try.prog 45 := ⟨_, Try.func45, rfl, by kernel_rfl⟩
theorem Try.en50 : Enters Try.prog 50 := ⟨_, Try.func50, rfl, by kernel_rfl⟩
theorem Try.en51 : Enters Try.prog 51 := ⟨_, Try.func51, rfl, by kernel_rfl⟩
theorem Try.en69 : Enters Try.prog 69 := ⟨_, Try.func69, rfl, by kernel_rfl⟩
theorem Try.en70 : Enters Try.prog 70 := ⟨_, Try.func70, rfl, by kernel_rfl⟩
theorem Try.en73 : Enters Try.prog 73 := ⟨_, Try.func73, rfl, by kernel_rfl⟩
theorem Try.en74 : Enters Try.prog 74 := ⟨_, Try.func74, rfl, by kernel_rfl⟩
theorem Try.en77 : Enters Try.prog 77 := ⟨_, Try.func77, rfl, by kernel_rfl⟩
theorem Try.en78 : Enters Try.prog 78 := ⟨_, Try.func78, rfl, by kernel_rfl⟩
theorem Try.en86 : Enters Try.prog 86 := ⟨_, Try.func86, rfl, by kernel_rfl⟩
theorem Try.en87 : Enters Try.prog 87 := ⟨_, Try.func87, rfl, by kernel_rfl⟩
theorem Try.en88 : Enters Try.prog 88 := ⟨_, Try.func88, rfl, by kernel_rfl⟩
theorem Try.en90 : Enters Try.prog 90 := ⟨_, Try.func90, rfl, by kernel_rfl⟩
theorem Try.en91 : Enters Try.prog 91 := ⟨_, Try.func91, rfl, by kernel_rfl⟩
theorem Try.en92 : Enters Try.prog 92 := ⟨_, Try.func92, rfl, by kernel_rfl⟩
theorem Try.en94 : Enters Try.prog 94 := ⟨_, Try.func94, rfl, by kernel_rfl⟩
theorem Try.en95 : Enters Try.prog 95 := ⟨_, Try.func95, rfl, by kernel_rfl⟩
theorem Try.en96 : Enters Try.prog 96 := ⟨_, Try.func96, rfl, by kernel_rfl⟩
theorem Try.en97 : Enters Try.prog 97 := ⟨_, Try.func97, rfl, by kernel_rfl⟩
theorem Try.en98 : Enters Try.prog 98 := ⟨_, Try.func98, rfl, by kernel_rfl⟩
theorem Try.en100 : Enters Try.prog 100 := ⟨_, Try.func100, rfl, by kernel_rfl⟩
theorem Try.en102 : Enters Try.prog 102 := ⟨_, Try.func102, rfl, by kernel_rfl⟩
theorem Try.en103 : Enters Try.prog 103 := ⟨_, Try.func103, rfl, by kernel_rfl⟩
theorem Try.en105 : Enters Try.prog 105 := ⟨_, Try.func105, rfl, by kernel_rfl⟩
theorem Try.en130 : Enters Try.prog 130 := ⟨_, Try.func130, rfl, by kernel_rfl⟩
theorem Try.en131 : Enters Try.prog 131 := ⟨_, Try.func131, rfl, by kernel_rfl⟩
theorem Try.en134 : Enters Try.prog 134 := ⟨_, Try.func134, rfl, by kernel_rfl⟩
theorem Try.en135 : Enters Try.prog 135 := ⟨_, Try.func135, rfl, by kernel_rfl⟩
theorem Try.en138 : Enters Try.prog 138 := ⟨_, Try.func138, rfl, by kernel_rfl⟩
theorem Try.en143 : Enters Try.prog 143 := ⟨_, Try.func143, rfl, by kernel_rfl⟩
theorem Try.en144 : Enters Try.prog 144 := ⟨_, Try.func144, rfl, by kernel_rfl⟩
theorem Try.en145 : Enters Try.prog 145 := ⟨_, Try.func145, rfl, by kernel_rfl⟩
theorem Try.en146 : Enters Try.prog 146 := ⟨_, Try.func146, rfl, by kernel_rfl⟩
theorem Try.en147 : Enters Try.prog 147 := ⟨_, Try.func147, rfl, by kernel_rfl⟩
theorem Try.en148 : Enters Try.prog 148 := ⟨_, Try.func148, rfl, by kernel_rfl⟩
theorem Try.en149 : Enters Try.prog 149 := ⟨_, Try.func149, rfl, by kernel_rfl⟩
theorem Try.en150 : Enters Try.prog 150 := ⟨_, Try.func150, rfl, by kernel_rfl⟩
theorem Try.en151 : Enters Try.prog 151 := ⟨_, Try.func151, rfl, by kernel_rfl⟩
theorem Try.en152 : Enters Try.prog 152 := ⟨_, Try.func152, rfl, by kernel_rfl⟩
theorem Try.en153 : Enters Try.prog 153 := ⟨_, Try.func153, rfl, by kernel_rfl⟩
theorem Try.en156 : Enters Try.prog 156 := ⟨_, Try.func156, rfl, by kernel_rfl⟩
theorem Try.en157 : Enters Try.prog 157 := ⟨_, Try.func157, rfl, by kernel_rfl⟩
theorem Try.en158 : Enters Try.prog 158 := ⟨_, Try.func158, rfl, by kernel_rfl⟩
theorem Try.en159 : Enters Try.prog 159 := ⟨_, Try.func159, rfl, by kernel_rfl⟩
theorem Try.en160 : Enters Try.prog 160 := ⟨_, Try.func160, rfl, by kernel_rfl⟩
theorem Try.en162 : Enters Try.prog 162 := ⟨_, Try.func162, rfl, by kernel_rfl⟩
theorem Try.en163 : Enters Try.prog 163 := ⟨_, Try.func163, rfl, by kernel_rfl⟩
theorem Try.en164 : Enters Try.prog 164 := ⟨_, Try.func164, rfl, by kernel_rfl⟩
theorem Try.en165 : Enters Try.prog 165 := ⟨_, Try.func165, rfl, by kernel_rfl⟩
theorem Try.en166 : Enters Try.prog 166 := ⟨_, Try.func166, rfl, by kernel_rfl⟩
theorem Try.en167 : Enters Try.prog 167 := ⟨_, Try.func167, rfl, by kernel_rfl⟩
theorem Try.en177 : Enters Try.prog 177 := ⟨_, Try.func177, rfl, by kernel_rfl⟩
theorem Try.en178 : Enters Try.prog 178 := ⟨_, Try.func178, rfl, by kernel_rfl⟩
theorem Try.en180 : Enters Try.prog 180 := ⟨_, Try.func180, rfl, by kernel_rfl⟩
theorem Try.en181 : Enters Try.prog 181 := ⟨_, Try.func181, rfl, by kernel_rfl⟩
theorem Try.en192 : Enters Try.prog 192 := ⟨_, Try.func192, rfl, by kernel_rfl⟩
theorem Try.en193 : Enters Try.prog 193 := ⟨_, Try.func193, rfl, by kernel_rfl⟩
theorem Try.en194 : Enters Try.prog 194 := ⟨_, Try.func194, rfl, by kernel_rfl⟩
theorem Try.en195 : Enters Try.prog 195 := ⟨_, Try.func195, rfl, by kernel_rfl⟩
theorem Try.en196 : Enters Try.prog 196 := ⟨_, Try.func196, rfl, by kernel_rfl⟩
theorem Try.en197 : Enters Try.prog 197 := ⟨_, Try.func197, rfl, by kernel_rfl⟩
theorem Try.en198 : Enters Try.prog 198 := ⟨_, Try.func198, rfl, by kernel_rfl⟩
theorem Try.en199 : Enters Try.prog 199 := ⟨_, Try.func199, rfl, by kernel_rfl⟩
theorem Try.en200 : Enters Try.prog 200 := ⟨_, Try.func200, rfl, by kernel_rfl⟩
theorem Try.en201 : Enters Try.prog 201 := ⟨_, Try.func201, rfl, by kernel_rfl⟩
theorem Try.en202 : Enters Try.prog 202 := ⟨_, Try.func202, rfl, by kernel_rfl⟩
theorem Try.en203 : Enters Try.prog 203 := ⟨_, Try.func203, rfl, by kernel_rfl⟩
theorem Try.en204 : Enters Try.prog 204 := ⟨_, Try.func204, rfl, by kernel_rfl⟩
theorem Try.en205 : Enters Try.prog 205 := ⟨_, Try.func205, rfl, by kernel_rfl⟩
theorem Try.en206 : Enters Try.prog 206 := ⟨_, Try.func206, rfl, by kernel_rfl⟩
theorem Try.en207 : Enters Try.prog 207 := ⟨_, Try.func207, rfl, by kernel_rfl⟩
theorem Try.en211 : Enters Try.prog 211 := ⟨_, Try.func211, rfl, by kernel_rfl⟩
theorem Try.en212 : Enters Try.prog 212 := ⟨_, Try.func212, rfl, by kernel_rfl⟩
theorem Try.en213 : Enters Try.prog 213 := ⟨_, Try.func213, rfl, by kernel_rfl⟩
theorem Try.en214 : Enters Try.prog 214 := ⟨_, Try.func214, rfl, by kernel_rfl⟩
theorem Try.en216 : Enters Try.prog 216 := ⟨_, Try.func216, rfl, by kernel_rfl⟩
theorem Try.en219 : Enters Try.prog 219 := ⟨_, Try.func219, rfl, by kernel_rfl⟩
theorem Try.en220 : Enters Try.prog 220 := ⟨_, Try.func220, rfl, by kernel_rfl⟩
theorem Try.en221 : Enters Try.prog 221 := ⟨_, Try.func221, rfl, by kernel_rfl⟩
theorem Try.en222 : Enters Try.prog 222 := ⟨_, Try.func222, rfl, by kernel_rfl⟩
theorem Try.en223 : Enters Try.prog 223 := ⟨_, Try.func223, rfl, by kernel_rfl⟩
theorem Try.en224 : Enters Try.prog 224 := ⟨_, Try.func224, rfl, by kernel_rfl⟩
theorem Try.en225 : Enters Try.prog 225 := ⟨_, Try.func225, rfl, by kernel_rfl⟩
theorem Try.en226 : Enters Try.prog 226 := ⟨_, Try.func226, rfl, by kernel_rfl⟩
theorem Try.en230 : Enters Try.prog 230 := ⟨_, Try.func230, rfl, by kernel_rfl⟩
theorem Try.en231 : Enters Try.prog 231 := ⟨_, Try.func231, rfl, by kernel_rfl⟩
theorem Try.en236 : Enters Try.prog 236 := ⟨_, Try.func236, rfl, by kernel_rfl⟩
end Go.Proofs.Ytfmepgbpbbneaaa
