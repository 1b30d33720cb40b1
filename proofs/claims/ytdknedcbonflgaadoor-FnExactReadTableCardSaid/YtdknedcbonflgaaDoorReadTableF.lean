/- Read Table: facts of the types and functions of the translation. -/
import Derived.Test.YtdknedcbonflgaaDoorProg
import Derived.Test.YtdknedcbonflgaaDoorReadTableT
set_option linter.unusedVariables false
set_option linter.unusedSimpArgs false
namespace Go.Proofs.YtdknedcbonflgaaDoor
open Go.RowKit Go.X
theorem Tryd.follows:Tryd.prog.follows .mixedOrders=true:=by kernel_rfl
theorem Tryd.ty3:KE Tryd.prog 3=some (1,8,some (.int .i64 (0)),false):=by kernel_rfl
theorem Tryd.ty5:KE Tryd.prog 5=some (1,1,some (.int .u8 (0)),false):=by kernel_rfl
theorem Tryd.ty9:KE Tryd.prog 9=some (1,16,some (.string (bs (([]:nA)))),false):=by kernel_rfl
theorem Tryd.ty22:KE Tryd.prog 22=some (1,24,some (.slice none 0 0),false):=by kernel_rfl
theorem Tryd.ty23:KE Tryd.prog 23=some (1,24,some (.slice none 0 0),false):=by kernel_rfl
theorem Tryd.ty25:KE Tryd.prog 25=some (3,64,some (.agg #[.string (bs (([]:nA))),.slice none 0 0,.slice none 0 0]),true):=by kernel_rfl
theorem Tryd.ty33:KE Tryd.prog 33=some (3,32,some (.agg #[.string (bs (([]:nA))),.int .i64 (0),.int .i64 (0)]),true):=by kernel_rfl
theorem Tryd.fd25_0:oE Tryd.prog 25 0=some (0,0+1,false):=by kernel_rfl
theorem Tryd.fd25_1:oE Tryd.prog 25 1=some (1,0+1,false):=by kernel_rfl
theorem Tryd.fd25_2:oE Tryd.prog 25 2=some (2,0+1,false):=by kernel_rfl
theorem Tryd.fd33_0:oE Tryd.prog 33 0=some (0,0+1,false):=by kernel_rfl
theorem Tryd.fd33_1:oE Tryd.prog 33 1=some (1,0+1,false):=by kernel_rfl
theorem Tryd.fd33_2:oE Tryd.prog 33 2=some (2,0+1,false):=by kernel_rfl
theorem Tryd.un3:Tryd.prog.underlying 3=some (.int .i64):=by kernel_rfl
theorem Tryd.un4:Tryd.prog.underlying 4=some (.bool):=by kernel_rfl
theorem Tryd.un5:Tryd.prog.underlying 5=some (.int .u8):=by kernel_rfl
theorem Tryd.un9:Tryd.prog.underlying 9=some (.string):=by kernel_rfl
theorem Tryd.un22:Tryd.prog.underlying 22=some (.slice 9):=by kernel_rfl
theorem Tryd.un23:Tryd.prog.underlying 23=some (.slice 33):=by kernel_rfl
theorem Tryd.un61:Tryd.prog.underlying 61=some (.slice 5):=by kernel_rfl
theorem Tryd.un84:Tryd.prog.underlying 84=some (.int .u32):=by kernel_rfl
theorem Tryd.ex67:EL Tryd.prog 67 Extern.BytealgIndexByte.indexByte:=⟨_,Tryd.func67,by kernel_rfl,by kernel_rfl,by kernel_rfl,by kernel_rfl⟩
theorem Tryd.en4:Enters Tryd.prog 4:=⟨_,Tryd.func4,rfl,by kernel_rfl⟩
theorem Tryd.en5:Enters Tryd.prog 5:=⟨_,Tryd.func5,rfl,by kernel_rfl⟩
theorem Tryd.en6:Enters Tryd.prog 6:=⟨_,Tryd.func6,rfl,by kernel_rfl⟩
theorem Tryd.en7:Enters Tryd.prog 7:=⟨_,Tryd.func7,rfl,by kernel_rfl⟩
theorem Tryd.en8:Enters Tryd.prog 8:=⟨_,Tryd.func8,rfl,by kernel_rfl⟩
theorem Tryd.en9:Enters Tryd.prog 9:=⟨_,Tryd.func9,rfl,by kernel_rfl⟩
theorem Tryd.en10:Enters Tryd.prog 10:=⟨_,Tryd.func10,rfl,by kernel_rfl⟩
theorem Tryd.en11:Enters Tryd.prog 11:=⟨_,Tryd.func11,rfl,by kernel_rfl⟩
theorem Tryd.en12:Enters Tryd.prog 12:=⟨_,Tryd.func12,rfl,by kernel_rfl⟩
theorem Tryd.en13:Enters Tryd.prog 13:=⟨_,Tryd.func13,rfl,by kernel_rfl⟩
theorem Tryd.en14:Enters Tryd.prog 14:=⟨_,Tryd.func14,rfl,by kernel_rfl⟩
theorem Tryd.en15:Enters Tryd.prog 15:=⟨_,Tryd.func15,rfl,by kernel_rfl⟩
theorem Tryd.en16:Enters Tryd.prog 16:=⟨_,Tryd.func16,rfl,by kernel_rfl⟩
theorem Tryd.en17:Enters Tryd.prog 17:=⟨_,Tryd.func17,rfl,by kernel_rfl⟩
theorem Tryd.en18:Enters Tryd.prog 18:=⟨_,Tryd.func18,rfl,by kernel_rfl⟩
theorem Tryd.en19:Enters Tryd.prog 19:=⟨_,Tryd.func19,rfl,by kernel_rfl⟩
theorem Tryd.en20:Enters Tryd.prog 20:=⟨_,Tryd.func20,rfl,by kernel_rfl⟩
theorem Tryd.en21:Enters Tryd.prog 21:=⟨_,Tryd.func21,rfl,by kernel_rfl⟩
theorem Tryd.en22:Enters Tryd.prog 22:=⟨_,Tryd.func22,rfl,by kernel_rfl⟩
theorem Tryd.en23:Enters Tryd.prog 23:=⟨_,Tryd.func23,rfl,by kernel_rfl⟩
theorem Tryd.en24:Enters Tryd.prog 24:=⟨_,Tryd.func24,rfl,by kernel_rfl⟩
theorem Tryd.en25:Enters Tryd.prog 25:=⟨_,Tryd.func25,rfl,by kernel_rfl⟩
theorem Tryd.en26:Enters Tryd.prog 26:=⟨_,Tryd.func26,rfl,by kernel_rfl⟩
theorem Tryd.en27:Enters Tryd.prog 27:=⟨_,Tryd.func27,rfl,by kernel_rfl⟩
theorem Tryd.en28:Enters Tryd.prog 28:=⟨_,Tryd.func28,rfl,by kernel_rfl⟩
theorem Tryd.en29:Enters Tryd.prog 29:=⟨_,Tryd.func29,rfl,by kernel_rfl⟩
theorem Tryd.en30:Enters Tryd.prog 30:=⟨_,Tryd.func30,rfl,by kernel_rfl⟩
theorem Tryd.en31:Enters Tryd.prog 31:=⟨_,Tryd.func31,rfl,by kernel_rfl⟩
theorem Tryd.en34:Enters Tryd.prog 34:=⟨_,Tryd.func34,rfl,by kernel_rfl⟩
theorem Tryd.en35:Enters Tryd.prog 35:=⟨_,Tryd.func35,rfl,by kernel_rfl⟩
theorem Tryd.en36:Enters Tryd.prog 36:=⟨_,Tryd.func36,rfl,by kernel_rfl⟩
theorem Tryd.en37:Enters Tryd.prog 37:=⟨_,Tryd.func37,rfl,by kernel_rfl⟩
theorem Tryd.en38:Enters Tryd.prog 38:=⟨_,Tryd.func38,rfl,by kernel_rfl⟩
theorem Tryd.en39:Enters Tryd.prog 39:=⟨_,Tryd.func39,rfl,by kernel_rfl⟩
theorem Tryd.en40:Enters Tryd.prog 40:=⟨_,Tryd.func40,rfl,by kernel_rfl⟩
theorem Tryd.en41:Enters Tryd.prog 41:=⟨_,Tryd.func41,rfl,by kernel_rfl⟩
theorem Tryd.en42:Enters Tryd.prog 42:=⟨_,Tryd.func42,rfl,by kernel_rfl⟩
theorem Tryd.en52:Enters Tryd.prog 52:=⟨_,Tryd.func52,rfl,by kernel_rfl⟩
end Go.Proofs.YtdknedcbonflgaaDoor
