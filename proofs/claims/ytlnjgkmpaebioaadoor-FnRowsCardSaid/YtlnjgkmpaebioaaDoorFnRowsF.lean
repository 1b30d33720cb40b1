/- Fn Rows: facts of the types and functions of the translation. -/
import Derived.Test.YtlnjgkmpaebioaaDoorProg
import Derived.Test.YtlnjgkmpaebioaaDoorFnRowsT
set_option linter.unusedVariables false
set_option linter.unusedSimpArgs false
namespace Go.Proofs.YtlnjgkmpaebioaaDoor
open Go.RowKit Go.X
theorem Tryd.follows : Tryd.prog.follows .mixedOrders = true := by kernel_rfl
theorem Tryd.ty3 : tyB Tryd.prog 3 = some (1, 8, some (.int .i64 (0)), false) := by kernel_rfl
theorem Tryd.ty4 : tyB Tryd.prog 4 = some (1, 1, some (.bool (false)), false) := by kernel_rfl
theorem Tryd.ty5 : tyB Tryd.prog 5 = some (1, 1, some (.int .u8 (0)), false) := by kernel_rfl
theorem Tryd.ty9 : tyB Tryd.prog 9 = some (1, 16, some (.string (bs (([] : Str)))), false) := by kernel_rfl
theorem Tryd.ty22 : tyB Tryd.prog 22 = some (1, 24, some (.slice none 0 0), false) := by kernel_rfl
theorem Tryd.ty23 : tyB Tryd.prog 23 = some (1, 24, some (.slice none 0 0), false) := by kernel_rfl
theorem Tryd.ty24 : tyB Tryd.prog 24 = some (1, 24, some (.slice none 0 0), false) := by kernel_rfl
theorem Tryd.ty26 : tyB Tryd.prog 26 = some (3, 64, some (.agg #[.string (bs (([] : Str))), .slice none 0 0, .slice none 0 0]), true) := by kernel_rfl
theorem Tryd.ty28 : tyB Tryd.prog 28 = some (1, 24, some (.agg #[.slice none 0 0]), true) := by kernel_rfl
theorem Tryd.ty34 : tyB Tryd.prog 34 = some (3, 40, some (.agg #[.string (bs (([] : Str))), .string (bs (([] : Str))), .bool (false)]), true) := by kernel_rfl
theorem Tryd.ty42 : tyB Tryd.prog 42 = some (3, 32, some (.agg #[.string (bs (([] : Str))), .int .i64 (0), .int .i64 (0)]), true) := by kernel_rfl
theorem Tryd.ty53 : tyB Tryd.prog 53 = some (1, 8, some (.int .u64 (0)), false) := by kernel_rfl
theorem Tryd.fd26_0 : fieldB Tryd.prog 26 0 = some (0, 0 + 1, false) := by kernel_rfl
theorem Tryd.fd26_1 : fieldB Tryd.prog 26 1 = some (1, 0 + 1, false) := by kernel_rfl
theorem Tryd.fd26_2 : fieldB Tryd.prog 26 2 = some (2, 0 + 1, false) := by kernel_rfl
theorem Tryd.fd28_0 : fieldB Tryd.prog 28 0 = some (0, 0 + 1, false) := by kernel_rfl
theorem Tryd.fd34_0 : fieldB Tryd.prog 34 0 = some (0, 0 + 1, false) := by kernel_rfl
theorem Tryd.fd34_1 : fieldB Tryd.prog 34 1 = some (1, 0 + 1, false) := by kernel_rfl
theorem Tryd.fd34_2 : fieldB Tryd.prog 34 2 = some (2, 0 + 1, false) := by kernel_rfl
theorem Tryd.fd42_0 : fieldB Tryd.prog 42 0 = some (0, 0 + 1, false) := by kernel_rfl
theorem Tryd.fd42_1 : fieldB Tryd.prog 42 1 = some (1, 0 + 1, false) := by kernel_rfl
theorem Tryd.fd42_2 : fieldB Tryd.prog 42 2 = some (2, 0 + 1, false) := by kernel_rfl
theorem Tryd.fd55_0 : fieldB Tryd.prog 55 0 = some (0, 0 + 1, false) := by kernel_rfl
theorem Tryd.fd55_1 : fieldB Tryd.prog 55 1 = some (1, 0 + 1, false) := by kernel_rfl
theorem Tryd.fd55_2 : fieldB Tryd.prog 55 2 = some (2, 0 + 1, false) := by kernel_rfl
theorem Tryd.un3 : Tryd.prog.underlying 3 = some (.int .i64) := by kernel_rfl
theorem Tryd.un4 : Tryd.prog.underlying 4 = some (.bool) := by kernel_rfl
theorem Tryd.un5 : Tryd.prog.underlying 5 = some (.int .u8) := by kernel_rfl
theorem Tryd.un9 : Tryd.prog.underlying 9 = some (.string) := by kernel_rfl
theorem Tryd.un22 : Tryd.prog.underlying 22 = some (.slice 5) := by kernel_rfl
theorem Tryd.un23 : Tryd.prog.underlying 23 = some (.slice 9) := by kernel_rfl
theorem Tryd.un24 : Tryd.prog.underlying 24 = some (.slice 42) := by kernel_rfl
theorem Tryd.un53 : Tryd.prog.underlying 53 = some (.int .u64) := by kernel_rfl
theorem Tryd.un114 : Tryd.prog.underlying 114 = some (.int .u32) := by kernel_rfl
theorem Tryd.ae34 {x y : DWrite} : AggEq Tryd.prog 34 (e_Write x) (e_Write y) ((x.Key == y.Key) && ((x.Val == y.Val) && (x.Gone == y.Gone))) := by
  refine ⟨by kernel_rfl, fun w => ?_⟩
  have u4 := Tryd.underlying4; have a4 := Tryd.isAgg4; have z4 := Tryd.sizeOf4
  have u9 := Tryd.underlying9; have a9 := Tryd.isAgg9; have z9 := Tryd.sizeOf9
  rw [run_equalIn_struct w 9999 34 _ _ (by kernel_rfl) (by kernel_rfl)]
  simp only [Program.fieldsOf, Tryd.underlying34, e_Write, List.toArray]
  go_simp
  simp only [bs_toList]
  by_cases h0 : x.Key = y.Key <;> by_cases h1 : x.Val = y.Val <;> by_cases h2 : x.Gone = y.Gone <;> simp [h0, h1, h2]
theorem Tryd.ex95 : Ext Tryd.prog 95 Extern.BytealgIndexByte.indexByte := ⟨_, Tryd.func95, by kernel_rfl, by kernel_rfl, by kernel_rfl, by kernel_rfl⟩
theorem Tryd.en4 : Enters Tryd.prog 4 := ⟨_, Tryd.func4, rfl, by kernel_rfl⟩
theorem Tryd.en5 : Enters Tryd.prog 5 := ⟨_, Tryd.func5, rfl, by kernel_rfl⟩
theorem Tryd.en6 : Enters Tryd.prog 6 := ⟨_, Tryd.func6, rfl, by kernel_rfl⟩
theorem Tryd.en7 : Enters Tryd.prog 7 := ⟨_, Tryd.func7, rfl, by kernel_rfl⟩
theorem Tryd.en8 : Enters Tryd.prog 8 := ⟨_, Tryd.func8, rfl, by kernel_rfl⟩
theorem Tryd.en9 : Enters Tryd.prog 9 := ⟨_, Tryd.func9, rfl, by kernel_rfl⟩
theorem Tryd.en10 : Enters Tryd.prog 10 := ⟨_, Tryd.func10, rfl, by kernel_rfl⟩
theorem Tryd.en11 : Enters Tryd.prog 11 := ⟨_, Tryd.func11, rfl, by kernel_rfl⟩
theorem Tryd.en12 : Enters Tryd.prog 12 := ⟨_, Tryd.func12, rfl, by kernel_rfl⟩
theorem Tryd.en13 : Enters Tryd.prog 13 := ⟨_, Tryd.func13, rfl, by kernel_rfl⟩
theorem Tryd.en14 : Enters Tryd.prog 14 := ⟨_, Tryd.func14, rfl, by kernel_rfl⟩
theorem Tryd.en15 : Enters Tryd.prog 15 := ⟨_, Tryd.func15, rfl, by kernel_rfl⟩
theorem Tryd.en16 : Enters Tryd.prog 16 := ⟨_, Tryd.func16, rfl, by kernel_rfl⟩
theorem Tryd.en17 : Enters Tryd.prog 17 := ⟨_, Tryd.func17, rfl, by kernel_rfl⟩
theorem Tryd.en18 : Enters Tryd.prog 18 := ⟨_, Tryd.func18, rfl, by kernel_rfl⟩
theorem Tryd.en19 : Enters Tryd.prog 19 := ⟨_, Tryd.func19, rfl, by kernel_rfl⟩
theorem Tryd.en20 : Enters Tryd.prog 20 := ⟨_, Tryd.func20, rfl, by kernel_rfl⟩
theorem Tryd.en21 : Enters Tryd.prog 21 := ⟨_, Tryd.func21, rfl, by kernel_rfl⟩
theorem Tryd.en22 : Enters Tryd.prog 22 := ⟨_, Tryd.func22, rfl, by kernel_rfl⟩
theorem Tryd.en23 : Enters Tryd.prog 23 := ⟨_, Tryd.func23, rfl, by kernel_rfl⟩
theorem Tryd.en24 : Enters Tryd.prog 24 := ⟨_, Tryd.func24, rfl, by kernel_rfl⟩
theorem Tryd.en25 : Enters Tryd.prog 25 := ⟨_, Tryd.func25, rfl, by kernel_rfl⟩
theorem Tryd.en26 : Enters Tryd.prog 26 := ⟨_, Tryd.func26, rfl, by kernel_rfl⟩
theorem Tryd.en27 : Enters Tryd.prog 27 := ⟨_, Tryd.func27, rfl, by kernel_rfl⟩
theorem Tryd.en28 : Enters Tryd.prog 28 := ⟨_, Tryd.func28, rfl, by kernel_rfl⟩
theorem Tryd.en29 : Enters Tryd.prog 29 := ⟨_, Tryd.func29, rfl, by kernel_rfl⟩
theorem Tryd.en30 : Enters Tryd.prog 30 := ⟨_, Tryd.func30, rfl, by kernel_rfl⟩
theorem Tryd.en31 : Enters Tryd.prog 31 := ⟨_, Tryd.func31, rfl, by kernel_rfl⟩
theorem Tryd.en32 : Enters Tryd.prog 32 := ⟨_, Tryd.func32, rfl, by kernel_rfl⟩
theorem Tryd.en33 : Enters Tryd.prog 33 := ⟨_, Tryd.func33, rfl, by kernel_rfl⟩
theorem Tryd.en34 : Enters Tryd.prog 34 := ⟨_, Tryd.func34, rfl, by kernel_rfl⟩
theorem Tryd.en35 : Enters Tryd.prog 35 := ⟨_, Tryd.func35, rfl, by kernel_rfl⟩
theorem Tryd.en36 : Enters Tryd.prog 36 := ⟨_, Tryd.func36, rfl, by kernel_rfl⟩
theorem Tryd.en37 : Enters Tryd.prog 37 := ⟨_, Tryd.func37, rfl, by kernel_rfl⟩
theorem Tryd.en38 : Enters Tryd.prog 38 := ⟨_, Tryd.func38, rfl, by kernel_rfl⟩
theorem Tryd.en39 : Enters Tryd.prog 39 := ⟨_, Tryd.func39, rfl, by kernel_rfl⟩
theorem Tryd.en40 : Enters Tryd.prog 40 := ⟨_, Tryd.func40, rfl, by kernel_rfl⟩
theorem Tryd.en41 : Enters Tryd.prog 41 := ⟨_, Tryd.func41, rfl, by kernel_rfl⟩
theorem Tryd.en42 : Enters Tryd.prog 42 := ⟨_, Tryd.func42, rfl, by kernel_rfl⟩
theorem Tryd.en43 : Enters Tryd.prog 43 := ⟨_, Tryd.func43, rfl, by kernel_rfl⟩
theorem Tryd.en44 : Enters Tryd.prog 44 := ⟨_, Tryd.func44, rfl, by kernel_rfl⟩
theorem Tryd.en45 : Enters Tryd.prog 45 := ⟨_, Tryd.func45, rfl, by kernel_rfl⟩
theorem Tryd.en46 : Enters Tryd.prog 46 := ⟨_, Tryd.func46, rfl, by kernel_rfl⟩
theorem Tryd.en47 : Enters Tryd.prog 47 := ⟨_, Tryd.func47, rfl, by kernel_rfl⟩
theorem Tryd.en48 : Enters Tryd.prog 48 := ⟨_, Tryd.func48, rfl, by kernel_rfl⟩
theorem Tryd.en49 : Enters Tryd.prog 49 := ⟨_, Tryd.func49, rfl, by kernel_rfl⟩
theorem Tryd.en50 : Enters Tryd.prog 50 := ⟨_, Tryd.func50, rfl, by kernel_rfl⟩
theorem Tryd.en51 : Enters Tryd.prog 51 := ⟨_, Tryd.func51, rfl, by kernel_rfl⟩
theorem Tryd.en52 : Enters Tryd.prog 52 := ⟨_, Tryd.func52, rfl, by kernel_rfl⟩
theorem Tryd.en53 : Enters Tryd.prog 53 := ⟨_, Tryd.func53, rfl, by kernel_rfl⟩
theorem Tryd.en54 : Enters Tryd.prog 54 := ⟨_, Tryd.func54, rfl, by kernel_rfl⟩
theorem Tryd.en55 : Enters Tryd.prog 55 := ⟨_, Tryd.func55, rfl, by kernel_rfl⟩
theorem Tryd.en56 : Enters Tryd.prog 56 := ⟨_, Tryd.func56, rfl, by kernel_rfl⟩
theorem Tryd.en57 : Enters Tryd.prog 57 := ⟨_, Tryd.func57, rfl, by kernel_rfl⟩
theorem Tryd.en58 : Enters Tryd.prog 58 := ⟨_, Tryd.func58, rfl, by kernel_rfl⟩
theorem Tryd.en59 : Enters Tryd.prog 59 := ⟨_, Tryd.func59, rfl, by kernel_rfl⟩
theorem Tryd.en60 : Enters Tryd.prog 60 := ⟨_, Tryd.func60, rfl, by kernel_rfl⟩
theorem Tryd.en61 : Enters Tryd.prog 61 := ⟨_, Tryd.func61, rfl, by kernel_rfl⟩
theorem Tryd.en62 : Enters Tryd.prog 62 := ⟨_, Tryd.func62, rfl, by kernel_rfl⟩
theorem Tryd.en63 : Enters Tryd.prog 63 := ⟨_, Tryd.func63, rfl, by kernel_rfl⟩
theorem Tryd.en64 : Enters Tryd.prog 64 := ⟨_, Tryd.func64, rfl, by kernel_rfl⟩
theorem Tryd.en65 : Enters Tryd.prog 65 := ⟨_, Tryd.func65, rfl, by kernel_rfl⟩
theorem Tryd.en66 : Enters Tryd.prog 66 := ⟨_, Tryd.func66, rfl, by kernel_rfl⟩
theorem Tryd.en70 : Enters Tryd.prog 70 := ⟨_, Tryd.func70, rfl, by kernel_rfl⟩
theorem Tryd.en71 : Enters Tryd.prog 71 := ⟨_, Tryd.func71, rfl, by kernel_rfl⟩
theorem Tryd.en72 : Enters Tryd.prog 72 := ⟨_, Tryd.func72, rfl, by kernel_rfl⟩
theorem Tryd.en73 : Enters Tryd.prog 73 := ⟨_, Tryd.func73, rfl, by kernel_rfl⟩
theorem Tryd.en75 : Enters Tryd.prog 75 := ⟨_, Tryd.func75, rfl, by kernel_rfl⟩
theorem Tryd.en76 : Enters Tryd.prog 76 := ⟨_, Tryd.func76, rfl, by kernel_rfl⟩
theorem Tryd.en79 : Enters Tryd.prog 79 := ⟨_, Tryd.func79, rfl, by kernel_rfl⟩
theorem Tryd.en80 : Enters Tryd.prog 80 := ⟨_, Tryd.func80, rfl, by kernel_rfl⟩
theorem Tryd.en81 : Enters Tryd.prog 81 := ⟨_, Tryd.func81, rfl, by kernel_rfl⟩
theorem Tryd.en85 : Enters Tryd.prog 85 := ⟨_, Tryd.func85, rfl, by kernel_rfl⟩
theorem Tryd.en88 : Enters Tryd.prog 88 := ⟨_, Tryd.func88, rfl, by kernel_rfl⟩
end Go.Proofs.YtlnjgkmpaebioaaDoor
