/- Scan Range: facts of the types and functions of the translation. -/
import Derived.Test.YtdhfokkkpcelpaaGreatDoorProg
import Derived.Test.YtdhfokkkpcelpaaGreatDoorScanRangeT
set_option linter.unusedVariables false
set_option linter.unusedSimpArgs false
namespace Go.Proofs.YtdhfokkkpcelpaaGreatDoor
open Go.RowKit Go.X
theorem Tryz.follows : Tryz.prog.follows .mixedOrders = true := by kernel_rfl
theorem Tryz.ty3 : tyB Tryz.prog 3 = some (1, 8, some (.int .i64 (0)), false) := by kernel_rfl
theorem Tryz.ty4 : tyB Tryz.prog 4 = some (1, 1, some (.bool (false)), false) := by kernel_rfl
theorem Tryz.ty5 : tyB Tryz.prog 5 = some (1, 1, some (.int .u8 (0)), false) := by kernel_rfl
theorem Tryz.ty9 : tyB Tryz.prog 9 = some (1, 16, some (.string (bs (([] : Str)))), false) := by kernel_rfl
theorem Tryz.ty22 : tyB Tryz.prog 22 = some (1, 24, some (.slice none 0 0), false) := by kernel_rfl
theorem Tryz.ty23 : tyB Tryz.prog 23 = some (1, 24, some (.slice none 0 0), false) := by kernel_rfl
theorem Tryz.ty25 : tyB Tryz.prog 25 = some (3, 64, some (.agg #[.string (bs (([] : Str))), .slice none 0 0, .slice none 0 0]), true) := by kernel_rfl
theorem Tryz.ty32 : tyB Tryz.prog 32 = some (1, 24, some (.slice none 0 0), false) := by kernel_rfl
theorem Tryz.ty34 : tyB Tryz.prog 34 = some (3, 64, some (.agg #[.string (bs (([] : Str))), .slice none 0 0, .slice none 0 0]), true) := by kernel_rfl
theorem Tryz.ty49 : tyB Tryz.prog 49 = some (3, 40, some (.agg #[.string (bs (([] : Str))), .string (bs (([] : Str))), .bool (false)]), true) := by kernel_rfl
theorem Tryz.ty57 : tyB Tryz.prog 57 = some (3, 40, some (.agg #[.string (bs (([] : Str))), .string (bs (([] : Str))), .bool (false)]), true) := by kernel_rfl
theorem Tryz.ty61 : tyB Tryz.prog 61 = some (1, 24, some (.agg #[.slice none 0 0]), true) := by kernel_rfl
theorem Tryz.ty76 : tyB Tryz.prog 76 = some (3, 32, some (.agg #[.string (bs (([] : Str))), .int .i64 (0), .int .i64 (0)]), true) := by kernel_rfl
theorem Tryz.ty79 : tyB Tryz.prog 79 = some (3, 32, some (.agg #[.string (bs (([] : Str))), .int .i64 (0), .int .i64 (0)]), true) := by kernel_rfl
theorem Tryz.fd25_0 : fieldB Tryz.prog 25 0 = some (0, 0 + 1, false) := by kernel_rfl
theorem Tryz.fd25_1 : fieldB Tryz.prog 25 1 = some (1, 0 + 1, false) := by kernel_rfl
theorem Tryz.fd25_2 : fieldB Tryz.prog 25 2 = some (2, 0 + 1, false) := by kernel_rfl
theorem Tryz.fd34_0 : fieldB Tryz.prog 34 0 = some (0, 0 + 1, false) := by kernel_rfl
theorem Tryz.fd34_1 : fieldB Tryz.prog 34 1 = some (1, 0 + 1, false) := by kernel_rfl
theorem Tryz.fd34_2 : fieldB Tryz.prog 34 2 = some (2, 0 + 1, false) := by kernel_rfl
theorem Tryz.fd49_0 : fieldB Tryz.prog 49 0 = some (0, 0 + 1, false) := by kernel_rfl
theorem Tryz.fd49_1 : fieldB Tryz.prog 49 1 = some (1, 0 + 1, false) := by kernel_rfl
theorem Tryz.fd49_2 : fieldB Tryz.prog 49 2 = some (2, 0 + 1, false) := by kernel_rfl
theorem Tryz.fd57_0 : fieldB Tryz.prog 57 0 = some (0, 0 + 1, false) := by kernel_rfl
theorem Tryz.fd57_1 : fieldB Tryz.prog 57 1 = some (1, 0 + 1, false) := by kernel_rfl
theorem Tryz.fd57_2 : fieldB Tryz.prog 57 2 = some (2, 0 + 1, false) := by kernel_rfl
theorem Tryz.fd61_0 : fieldB Tryz.prog 61 0 = some (0, 0 + 1, false) := by kernel_rfl
theorem Tryz.fd76_0 : fieldB Tryz.prog 76 0 = some (0, 0 + 1, false) := by kernel_rfl
theorem Tryz.fd76_1 : fieldB Tryz.prog 76 1 = some (1, 0 + 1, false) := by kernel_rfl
theorem Tryz.fd76_2 : fieldB Tryz.prog 76 2 = some (2, 0 + 1, false) := by kernel_rfl
theorem Tryz.fd79_0 : fieldB Tryz.prog 79 0 = some (0, 0 + 1, false) := by kernel_rfl
theorem Tryz.fd79_1 : fieldB Tryz.prog 79 1 = some (1, 0 + 1, false) := by kernel_rfl
theorem Tryz.fd79_2 : fieldB Tryz.prog 79 2 = some (2, 0 + 1, false) := by kernel_rfl
theorem Tryz.un3 : Tryz.prog.underlying 3 = some (.int .i64) := by kernel_rfl
theorem Tryz.un4 : Tryz.prog.underlying 4 = some (.bool) := by kernel_rfl
theorem Tryz.un5 : Tryz.prog.underlying 5 = some (.int .u8) := by kernel_rfl
theorem Tryz.un9 : Tryz.prog.underlying 9 = some (.string) := by kernel_rfl
theorem Tryz.un22 : Tryz.prog.underlying 22 = some (.slice 9) := by kernel_rfl
theorem Tryz.un23 : Tryz.prog.underlying 23 = some (.slice 76) := by kernel_rfl
theorem Tryz.un26 : Tryz.prog.underlying 26 = some (.slice 49) := by kernel_rfl
theorem Tryz.un29 : Tryz.prog.underlying 29 = some (.slice 61) := by kernel_rfl
theorem Tryz.un32 : Tryz.prog.underlying 32 = some (.slice 79) := by kernel_rfl
theorem Tryz.un36 : Tryz.prog.underlying 36 = some (.slice 57) := by kernel_rfl
theorem Tryz.un92 : Tryz.prog.underlying 92 = some (.slice 3) := by kernel_rfl
theorem Tryz.un94 : Tryz.prog.underlying 94 = some (.slice 5) := by kernel_rfl
theorem Tryz.un115 : Tryz.prog.underlying 115 = some (.int .u64) := by kernel_rfl
theorem Tryz.ae57 {x y : DWrite} : AggEq Tryz.prog 57 (e_Write x) (e_Write y) ((x.Key == y.Key) && ((x.Val == y.Val) && (x.Gone == y.Gone))) := by
  refine ⟨by kernel_rfl, fun w => ?_⟩
  have u4 := Tryz.underlying4; have a4 := Tryz.isAgg4; have z4 := Tryz.sizeOf4
  have u9 := Tryz.underlying9; have a9 := Tryz.isAgg9; have z9 := Tryz.sizeOf9
  rw [run_equalIn_struct w 9999 57 _ _ (by kernel_rfl) (by kernel_rfl)]
  simp only [Program.fieldsOf, Tryz.underlying57, e_Write, List.toArray]
  go_simp
  simp only [bs_toList]
  by_cases h0 : x.Key = y.Key <;> by_cases h1 : x.Val = y.Val <;> by_cases h2 : x.Gone = y.Gone <;> simp [h0, h1, h2]
theorem Tryz.ex99 : Ext Tryz.prog 99 Extern.BytealgIndexByte.indexByte := ⟨_, Tryz.func99, by kernel_rfl, by kernel_rfl, by kernel_rfl, by kernel_rfl⟩
theorem Tryz.en4 : Enters Tryz.prog 4 := ⟨_, Tryz.func4, rfl, by kernel_rfl⟩
theorem Tryz.en5 : Enters Tryz.prog 5 := ⟨_, Tryz.func5, rfl, by kernel_rfl⟩
theorem Tryz.en6 : Enters Tryz.prog 6 := ⟨_, Tryz.func6, rfl, by kernel_rfl⟩
theorem Tryz.en7 : Enters Tryz.prog 7 := ⟨_, Tryz.func7, rfl, by kernel_rfl⟩
theorem Tryz.en8 : Enters Tryz.prog 8 := ⟨_, Tryz.func8, rfl, by kernel_rfl⟩
theorem Tryz.en9 : Enters Tryz.prog 9 := ⟨_, Tryz.func9, rfl, by kernel_rfl⟩
theorem Tryz.en10 : Enters Tryz.prog 10 := ⟨_, Tryz.func10, rfl, by kernel_rfl⟩
theorem Tryz.en11 : Enters Tryz.prog 11 := ⟨_, Tryz.func11, rfl, by kernel_rfl⟩
theorem Tryz.en12 : Enters Tryz.prog 12 := ⟨_, Tryz.func12, rfl, by kernel_rfl⟩
theorem Tryz.en13 : Enters Tryz.prog 13 := ⟨_, Tryz.func13, rfl, by kernel_rfl⟩
theorem Tryz.en14 : Enters Tryz.prog 14 := ⟨_, Tryz.func14, rfl, by kernel_rfl⟩
theorem Tryz.en15 : Enters Tryz.prog 15 := ⟨_, Tryz.func15, rfl, by kernel_rfl⟩
theorem Tryz.en16 : Enters Tryz.prog 16 := ⟨_, Tryz.func16, rfl, by kernel_rfl⟩
theorem Tryz.en17 : Enters Tryz.prog 17 := ⟨_, Tryz.func17, rfl, by kernel_rfl⟩
theorem Tryz.en18 : Enters Tryz.prog 18 := ⟨_, Tryz.func18, rfl, by kernel_rfl⟩
theorem Tryz.en19 : Enters Tryz.prog 19 := ⟨_, Tryz.func19, rfl, by kernel_rfl⟩
theorem Tryz.en20 : Enters Tryz.prog 20 := ⟨_, Tryz.func20, rfl, by kernel_rfl⟩
theorem Tryz.en21 : Enters Tryz.prog 21 := ⟨_, Tryz.func21, rfl, by kernel_rfl⟩
theorem Tryz.en22 : Enters Tryz.prog 22 := ⟨_, Tryz.func22, rfl, by kernel_rfl⟩
theorem Tryz.en23 : Enters Tryz.prog 23 := ⟨_, Tryz.func23, rfl, by kernel_rfl⟩
theorem Tryz.en24 : Enters Tryz.prog 24 := ⟨_, Tryz.func24, rfl, by kernel_rfl⟩
theorem Tryz.en25 : Enters Tryz.prog 25 := ⟨_, Tryz.func25, rfl, by kernel_rfl⟩
theorem Tryz.en26 : Enters Tryz.prog 26 := ⟨_, Tryz.func26, rfl, by kernel_rfl⟩
theorem Tryz.en27 : Enters Tryz.prog 27 := ⟨_, Tryz.func27, rfl, by kernel_rfl⟩
theorem Tryz.en28 : Enters Tryz.prog 28 := ⟨_, Tryz.func28, rfl, by kernel_rfl⟩
theorem Tryz.en29 : Enters Tryz.prog 29 := ⟨_, Tryz.func29, rfl, by kernel_rfl⟩
theorem Tryz.en30 : Enters Tryz.prog 30 := ⟨_, Tryz.func30, rfl, by kernel_rfl⟩
theorem Tryz.en31 : Enters Tryz.prog 31 := ⟨_, Tryz.func31, rfl, by kernel_rfl⟩
theorem Tryz.en32 : Enters Tryz.prog 32 := ⟨_, Tryz.func32, rfl, by kernel_rfl⟩
theorem Tryz.en33 : Enters Tryz.prog 33 := ⟨_, Tryz.func33, rfl, by kernel_rfl⟩
theorem Tryz.en34 : Enters Tryz.prog 34 := ⟨_, Tryz.func34, rfl, by kernel_rfl⟩
theorem Tryz.en35 : Enters Tryz.prog 35 := ⟨_, Tryz.func35, rfl, by kernel_rfl⟩
theorem Tryz.en36 : Enters Tryz.prog 36 := ⟨_, Tryz.func36, rfl, by kernel_rfl⟩
theorem Tryz.en37 : Enters Tryz.prog 37 := ⟨_, Tryz.func37, rfl, by kernel_rfl⟩
theorem Tryz.en38 : Enters Tryz.prog 38 := ⟨_, Tryz.func38, rfl, by kernel_rfl⟩
theorem Tryz.en39 : Enters Tryz.prog 39 := ⟨_, Tryz.func39, rfl, by kernel_rfl⟩
theorem Tryz.en40 : Enters Tryz.prog 40 := ⟨_, Tryz.func40, rfl, by kernel_rfl⟩
theorem Tryz.en41 : Enters Tryz.prog 41 := ⟨_, Tryz.func41, rfl, by kernel_rfl⟩
theorem Tryz.en42 : Enters Tryz.prog 42 := ⟨_, Tryz.func42, rfl, by kernel_rfl⟩
theorem Tryz.en43 : Enters Tryz.prog 43 := ⟨_, Tryz.func43, rfl, by kernel_rfl⟩
theorem Tryz.en44 : Enters Tryz.prog 44 := ⟨_, Tryz.func44, rfl, by kernel_rfl⟩
theorem Tryz.en45 : Enters Tryz.prog 45 := ⟨_, Tryz.func45, rfl, by kernel_rfl⟩
theorem Tryz.en46 : Enters Tryz.prog 46 := ⟨_, Tryz.func46, rfl, by kernel_rfl⟩
theorem Tryz.en47 : Enters Tryz.prog 47 := ⟨_, Tryz.func47, rfl, by kernel_rfl⟩
theorem Tryz.en48 : Enters Tryz.prog 48 := ⟨_, Tryz.func48, rfl, by kernel_rfl⟩
theorem Tryz.en49 : Enters Tryz.prog 49 := ⟨_, Tryz.func49, rfl, by kernel_rfl⟩
theorem Tryz.en50 : Enters Tryz.prog 50 := ⟨_, Tryz.func50, rfl, by kernel_rfl⟩
theorem Tryz.en51 : Enters Tryz.prog 51 := ⟨_, Tryz.func51, rfl, by kernel_rfl⟩
theorem Tryz.en52 : Enters Tryz.prog 52 := ⟨_, Tryz.func52, rfl, by kernel_rfl⟩
theorem Tryz.en53 : Enters Tryz.prog 53 := ⟨_, Tryz.func53, rfl, by kernel_rfl⟩
theorem Tryz.en54 : Enters Tryz.prog 54 := ⟨_, Tryz.func54, rfl, by kernel_rfl⟩
theorem Tryz.en55 : Enters Tryz.prog 55 := ⟨_, Tryz.func55, rfl, by kernel_rfl⟩
theorem Tryz.en56 : Enters Tryz.prog 56 := ⟨_, Tryz.func56, rfl, by kernel_rfl⟩
theorem Tryz.en57 : Enters Tryz.prog 57 := ⟨_, Tryz.func57, rfl, by kernel_rfl⟩
theorem Tryz.en58 : Enters Tryz.prog 58 := ⟨_, Tryz.func58, rfl, by kernel_rfl⟩
theorem Tryz.en59 : Enters Tryz.prog 59 := ⟨_, Tryz.func59, rfl, by kernel_rfl⟩
theorem Tryz.en60 : Enters Tryz.prog 60 := ⟨_, Tryz.func60, rfl, by kernel_rfl⟩
theorem Tryz.en61 : Enters Tryz.prog 61 := ⟨_, Tryz.func61, rfl, by kernel_rfl⟩
theorem Tryz.en62 : Enters Tryz.prog 62 := ⟨_, Tryz.func62, rfl, by kernel_rfl⟩
theorem Tryz.en63 : Enters Tryz.prog 63 := ⟨_, Tryz.func63, rfl, by kernel_rfl⟩
theorem Tryz.en64 : Enters Tryz.prog 64 := ⟨_, Tryz.func64, rfl, by kernel_rfl⟩
theorem Tryz.en65 : Enters Tryz.prog 65 := ⟨_, Tryz.func65, rfl, by kernel_rfl⟩
theorem Tryz.en66 : Enters Tryz.prog 66 := ⟨_, Tryz.func66, rfl, by kernel_rfl⟩
theorem Tryz.en67 : Enters Tryz.prog 67 := ⟨_, Tryz.func67, rfl, by kernel_rfl⟩
theorem Tryz.en68 : Enters Tryz.prog 68 := ⟨_, Tryz.func68, rfl, by kernel_rfl⟩
theorem Tryz.en69 : Enters Tryz.prog 69 := ⟨_, Tryz.func69, rfl, by kernel_rfl⟩
theorem Tryz.en70 : Enters Tryz.prog 70 := ⟨_, Tryz.func70, rfl, by kernel_rfl⟩
theorem Tryz.en71 : Enters Tryz.prog 71 := ⟨_, Tryz.func71, rfl, by kernel_rfl⟩
theorem Tryz.en72 : Enters Tryz.prog 72 := ⟨_, Tryz.func72, rfl, by kernel_rfl⟩
theorem Tryz.en73 : Enters Tryz.prog 73 := ⟨_, Tryz.func73, rfl, by kernel_rfl⟩
theorem Tryz.en74 : Enters Tryz.prog 74 := ⟨_, Tryz.func74, rfl, by kernel_rfl⟩
theorem Tryz.en75 : Enters Tryz.prog 75 := ⟨_, Tryz.func75, rfl, by kernel_rfl⟩
theorem Tryz.en76 : Enters Tryz.prog 76 := ⟨_, Tryz.func76, rfl, by kernel_rfl⟩
theorem Tryz.en77 : Enters Tryz.prog 77 := ⟨_, Tryz.func77, rfl, by kernel_rfl⟩
theorem Tryz.en78 : Enters Tryz.prog 78 := ⟨_, Tryz.func78, rfl, by kernel_rfl⟩
theorem Tryz.en79 : Enters Tryz.prog 79 := ⟨_, Tryz.func79, rfl, by kernel_rfl⟩
theorem Tryz.en80 : Enters Tryz.prog 80 := ⟨_, Tryz.func80, rfl, by kernel_rfl⟩
theorem Tryz.en81 : Enters Tryz.prog 81 := ⟨_, Tryz.func81, rfl, by kernel_rfl⟩
theorem Tryz.en82 : Enters Tryz.prog 82 := ⟨_, Tryz.func82, rfl, by kernel_rfl⟩
theorem Tryz.en83 : Enters Tryz.prog 83 := ⟨_, Tryz.func83, rfl, by kernel_rfl⟩
theorem Tryz.en84 : Enters Tryz.prog 84 := ⟨_, Tryz.func84, rfl, by kernel_rfl⟩
theorem Tryz.en85 : Enters Tryz.prog 85 := ⟨_, Tryz.func85, rfl, by kernel_rfl⟩
theorem Tryz.en86 : Enters Tryz.prog 86 := ⟨_, Tryz.func86, rfl, by kernel_rfl⟩
theorem Tryz.en87 : Enters Tryz.prog 87 := ⟨_, Tryz.func87, rfl, by kernel_rfl⟩
theorem Tryz.en88 : Enters Tryz.prog 88 := ⟨_, Tryz.func88, rfl, by kernel_rfl⟩
theorem Tryz.en89 : Enters Tryz.prog 89 := ⟨_, Tryz.func89, rfl, by kernel_rfl⟩
theorem Tryz.en90 : Enters Tryz.prog 90 := ⟨_, Tryz.func90, rfl, by kernel_rfl⟩
theorem Tryz.en91 : Enters Tryz.prog 91 := ⟨_, Tryz.func91, rfl, by kernel_rfl⟩
theorem Tryz.en92 : Enters Tryz.prog 92 := ⟨_, Tryz.func92, rfl, by kernel_rfl⟩
theorem Tryz.en94 : Enters Tryz.prog 94 := ⟨_, Tryz.func94, rfl, by kernel_rfl⟩
theorem Tryz.en95 : Enters Tryz.prog 95 := ⟨_, Tryz.func95, rfl, by kernel_rfl⟩
theorem Tryz.en96 : Enters Tryz.prog 96 := ⟨_, Tryz.func96, rfl, by kernel_rfl⟩
theorem Tryz.en97 : Enters Tryz.prog 97 := ⟨_, Tryz.func97, rfl, by kernel_rfl⟩
theorem Tryz.en98 : Enters Tryz.prog 98 := ⟨_, Tryz.func98, rfl, by kernel_rfl⟩
theorem Tryz.en100 : Enters Tryz.prog 100 := ⟨_, Tryz.func100, rfl, by kernel_rfl⟩
theorem Tryz.en104 : Enters Tryz.prog 104 := ⟨_, Tryz.func104, rfl, by kernel_rfl⟩
theorem Tryz.en108 : Enters Tryz.prog 108 := ⟨_, Tryz.func108, rfl, by kernel_rfl⟩
end Go.Proofs.YtdhfokkkpcelpaaGreatDoor
