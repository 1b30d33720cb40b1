/- Fn Copy Bytes: facts of the types and functions of the translation. -/
import Derived.Test.YtikkoidgamlgnaaProg
import Derived.Test.YtikkoidgamlgnaaFnCopyBytesT
set_option linter.unusedVariables false
set_option linter.unusedSimpArgs false
namespace Go.Proofs.Ytikkoidgamlgnaa
open Go.RowKit Go.X
theorem Try.follows:Try.prog.follows .mixedOrders=true:=by kernel_rfl
theorem Try.ty3:xG Try.prog 3=some (1,8,some (.int .i64 (0)),false):=by kernel_rfl
theorem Try.ty4:xG Try.prog 4=some (1,1,some (.bool (false)),false):=by kernel_rfl
theorem Try.ty5:xG Try.prog 5=some (1,1,some (.int .u8 (0)),false):=by kernel_rfl
theorem Try.ty9:xG Try.prog 9=some (1,16,some (.string (bs (([]:YA)))),false):=by kernel_rfl
theorem Try.ty22:xG Try.prog 22=some (1,24,some (.slice none 0 0),false):=by kernel_rfl
theorem Try.ty24:xG Try.prog 24=some (1,24,some (.slice none 0 0),false):=by kernel_rfl
theorem Try.ty26:xG Try.prog 26=some (2,32,some (.agg #[.int .i64 (0),.slice none 0 0]),true):=by kernel_rfl
theorem Try.ty57:xG Try.prog 57=some (3,40,some (.agg #[.string (bs (([]:YA))),.string (bs (([]:YA))),.bool (false)]),true):=by kernel_rfl
theorem Try.ty73:xG Try.prog 73=some (3,32,some (.agg #[.int .i64 (0),.string (bs (([]:YA))),.bool (false)]),true):=by kernel_rfl
theorem Try.ty74:xG Try.prog 74=some (1,24,some (.slice none 0 0),false):=by kernel_rfl
theorem Try.ty76:xG Try.prog 76=some (2,40,some (.agg #[.string (bs (([]:YA))),.slice none 0 0]),true):=by kernel_rfl
theorem Try.ty78:xG Try.prog 78=some (1,8,some (.int .u64 (0)),false):=by kernel_rfl
theorem Try.fd26_0:JE Try.prog 26 0=some (0,0+1,false):=by kernel_rfl
theorem Try.fd26_1:JE Try.prog 26 1=some (1,0+1,false):=by kernel_rfl
theorem Try.fd57_0:JE Try.prog 57 0=some (0,0+1,false):=by kernel_rfl
theorem Try.fd57_1:JE Try.prog 57 1=some (1,0+1,false):=by kernel_rfl
theorem Try.fd57_2:JE Try.prog 57 2=some (2,0+1,false):=by kernel_rfl
theorem Try.fd61_0:JE Try.prog 61 0=some (0,0+1,false):=by kernel_rfl
theorem Try.fd61_1:JE Try.prog 61 1=some (1,0+1,false):=by kernel_rfl
theorem Try.fd61_2:JE Try.prog 61 2=some (2,0+1,false):=by kernel_rfl
theorem Try.fd73_0:JE Try.prog 73 0=some (0,0+1,false):=by kernel_rfl
theorem Try.fd73_1:JE Try.prog 73 1=some (1,0+1,false):=by kernel_rfl
theorem Try.fd73_2:JE Try.prog 73 2=some (2,0+1,false):=by kernel_rfl
theorem Try.fd76_0:JE Try.prog 76 0=some (0,0+1,false):=by kernel_rfl
theorem Try.fd76_1:JE Try.prog 76 1=some (1,0+1,false):=by kernel_rfl
theorem Try.fd80_0:JE Try.prog 80 0=some (0,0+1,false):=by kernel_rfl
theorem Try.fd80_1:JE Try.prog 80 1=some (1,0+1,false):=by kernel_rfl
theorem Try.fd80_2:JE Try.prog 80 2=some (2,0+1,false):=by kernel_rfl
theorem Try.un3:Try.prog.underlying 3=some (.int .i64):=by kernel_rfl
theorem Try.un4:Try.prog.underlying 4=some (.bool):=by kernel_rfl
theorem Try.un5:Try.prog.underlying 5=some (.int .u8):=by kernel_rfl
theorem Try.un9:Try.prog.underlying 9=some (.string):=by kernel_rfl
theorem Try.un22:Try.prog.underlying 22=some (.slice 5):=by kernel_rfl
theorem Try.un24:Try.prog.underlying 24=some (.slice 57):=by kernel_rfl
theorem Try.un42:Try.prog.underlying 42=some (.slice 76):=by kernel_rfl
theorem Try.un74:Try.prog.underlying 74=some (.slice 73):=by kernel_rfl
theorem Try.un78:Try.prog.underlying 78=some (.int .u64):=by kernel_rfl
theorem Try.un91:Try.prog.underlying 91=some (.slice 9):=by kernel_rfl
theorem Try.un99:Try.prog.underlying 99=some (.slice 3):=by kernel_rfl
theorem Try.ae57{x y:LA}:KO Try.prog 57 (YB x) (YB y) ((x.Key==y.Key)&&((x.Val==y.Val)&&(x.Gone==y.Gone))):=by
 refine⟨by kernel_rfl,fun w=>?_⟩
 have u4:=Try.underlying4;have a4:=Try.isAgg4;have z4:=Try.sizeOf4
 have u9:=Try.underlying9;have a9:=Try.isAgg9;have z9:=Try.sizeOf9
 rw[run_equalIn_struct w 9999 57 _ _ (by kernel_rfl) (by kernel_rfl)]
 simp only[Program.fieldsOf,Try.underlying57,YB,List.toArray]
 go_simp
 simp only[zG]
 by_cases h0:x.Key=y.Key<;>by_cases h1:x.Val=y.Val<;>by_cases h2:x.Gone=y.Gone<;>simp[h0,h1,h2]
theorem Try.ex127:IP Try.prog 127 Extern.BytealgIndexByte.indexByte:=⟨_,Try.func127,by kernel_rfl,by kernel_rfl,by kernel_rfl,by kernel_rfl⟩
theorem Try.en6:Enters Try.prog 6:=⟨_,Try.func6,rfl,by kernel_rfl⟩
theorem Try.en7:Enters Try.prog 7:=⟨_,Try.func7,rfl,by kernel_rfl⟩
theorem Try.en8:Enters Try.prog 8:=⟨_,Try.func8,rfl,by kernel_rfl⟩
theorem Try.en9:Enters Try.prog 9:=⟨_,Try.func9,rfl,by kernel_rfl⟩
theorem Try.en10:Enters Try.prog 10:=⟨_,Try.func10,rfl,by kernel_rfl⟩
theorem Try.en11:Enters Try.prog 11:=⟨_,Try.func11,rfl,by kernel_rfl⟩
theorem Try.en12:Enters Try.prog 12:=⟨_,Try.func12,rfl,by kernel_rfl⟩
theorem Try.en20:Enters Try.prog 20:=⟨_,Try.func20,rfl,by kernel_rfl⟩
theorem Try.en22:Enters Try.prog 22:=⟨_,Try.func22,rfl,by kernel_rfl⟩
theorem Try.en24:Enters Try.prog 24:=⟨_,Try.func24,rfl,by kernel_rfl⟩
theorem Try.en25:Enters Try.prog 25:=⟨_,Try.func25,rfl,by kernel_rfl⟩
theorem Try.en26:Enters Try.prog 26:=⟨_,Try.func26,rfl,by kernel_rfl⟩
theorem Try.en27:Enters Try.prog 27:=⟨_,Try.func27,rfl,by kernel_rfl⟩
theorem Try.en28:Enters Try.prog 28:=⟨_,Try.func28,rfl,by kernel_rfl⟩
theorem Try.en29:Enters Try.prog 29:=⟨_,Try.func29,rfl,by kernel_rfl⟩
theorem Try.en30:Enters Try.prog 30:=⟨_,Try.func30,rfl,by kernel_rfl⟩
theorem Try.en31:Enters Try.prog 31:=⟨_,Try.func31,rfl,by kernel_rfl⟩
theorem Try.en32:Enters Try.prog 32:=⟨_,Try.func32,rfl,by kernel_rfl⟩
theorem Try.en33:Enters Try.prog 33:=⟨_,Try.func33,rfl,by kernel_rfl⟩
theorem Try.en34:Enters Try.prog 34:=⟨_,Try.func34,rfl,by kernel_rfl⟩
theorem Try.en40:Enters Try.prog 40:=⟨_,Try.func40,rfl,by kernel_rfl⟩
theorem Try.en44:Enters Try.prog 44:=⟨_,Try.func44,rfl,by kernel_rfl⟩
theorem Try.en46:Enters Try.prog 46:=⟨_,Try.func46,rfl,by kernel_rfl⟩
theorem Try.en47:Enters Try.prog 47:=⟨_,Try.func47,rfl,by kernel_rfl⟩
theorem Try.en48:Enters Try.prog 48:=⟨_,Try.func48,rfl,by kernel_rfl⟩
theorem Try.en49:Enters Try.prog 49:=⟨_,Try.func49,rfl,by kernel_rfl⟩
theorem Try.en50:Enters Try.prog 50:=⟨_,Try.func50,rfl,by kernel_rfl⟩
theorem Try.en51:Enters Try.prog 51:=⟨_,Try.func51,rfl,by kernel_rfl⟩
theorem Try.en52:Enters Try.prog 52:=⟨_,Try.func52,rfl,by kernel_rfl⟩
theorem Try.en53:Enters Try.prog 53:=⟨_,Try.func53,rfl,by kernel_rfl⟩
theorem Try.en54:Enters Try.prog 54:=⟨_,Try.func54,rfl,by kernel_rfl⟩
theorem Try.en55:Enters Try.prog 55:=⟨_,Try.func55,rfl,by kernel_rfl⟩
theorem Try.en56:Enters Try.prog 56:=⟨_,Try.func56,rfl,by kernel_rfl⟩
theorem Try.en57:Enters Try.prog 57:=⟨_,Try.func57,rfl,by kernel_rfl⟩
theorem Try.en58:Enters Try.prog 58:=⟨_,Try.func58,rfl,by kernel_rfl⟩
theorem Try.en59:Enters Try.prog 59:=⟨_,Try.func59,rfl,by kernel_rfl⟩
theorem Try.en67:Enters Try.prog 67:=⟨_,Try.func67,rfl,by kernel_rfl⟩
theorem Try.en69:Enters Try.prog 69:=⟨_,Try.func69,rfl,by kernel_rfl⟩
theorem Try.en71:Enters Try.prog 71:=⟨_,Try.func71,rfl,by kernel_rfl⟩
theorem Try.en72:Enters Try.prog 72:=⟨_,Try.func72,rfl,by kernel_rfl⟩
theorem Try.en73:Enters Try.prog 73:=⟨_,Try.func73,rfl,by kernel_rfl⟩
theorem Try.en74:Enters Try.prog 74:=⟨_,Try.func74,rfl,by kernel_rfl⟩
theorem Try.en75:Enters Try.prog 75:=⟨_,Try.func75,rfl,by kernel_rfl⟩
theorem Try.en76:Enters Try.prog 76:=⟨_,Try.func76,rfl,by kernel_rfl⟩
theorem Try.en77:Enters Try.prog 77:=⟨_,Try.func77,rfl,by kernel_rfl⟩
theorem Try.en78:Enters Try.prog 78:=⟨_,Try.func78,rfl,by kernel_rfl⟩
theorem Try.en79:Enters Try.prog 79:=⟨_,Try.func79,rfl,by kernel_rfl⟩
theorem Try.en80:Enters Try.prog 80:=⟨_,Try.func80,rfl,by kernel_rfl⟩
theorem Try.en81:Enters Try.prog 81:=⟨_,Try.func81,rfl,by kernel_rfl⟩
theorem Try.en82:Enters Try.prog 82:=⟨_,Try.func82,rfl,by kernel_rfl⟩
theorem Try.en91:Enters Try.prog 91:=⟨_,Try.func91,rfl,by kernel_rfl⟩
theorem Try.en93:Enters Try.prog 93:=⟨_,Try.func93,rfl,by kernel_rfl⟩
theorem Try.en94:Enters Try.prog 94:=⟨_,Try.func94,rfl,by kernel_rfl⟩
theorem Try.en96:Enters Try.prog 96:=⟨_,Try.func96,rfl,by kernel_rfl⟩
theorem Try.en97:Enters Try.prog 97:=⟨_,Try.func97,rfl,by kernel_rfl⟩
theorem Try.en98:Enters Try.prog 98:=⟨_,Try.func98,rfl,by kernel_rfl⟩
theorem Try.en99:Enters Try.prog 99:=⟨_,Try.func99,rfl,by kernel_rfl⟩
theorem Try.en100:Enters Try.prog 100:=⟨_,Try.func100,rfl,by kernel_rfl⟩
theorem Try.en101:Enters Try.prog 101:=⟨_,Try.func101,rfl,by kernel_rfl⟩
theorem Try.en102:Enters Try.prog 102:=⟨_,Try.func102,rfl,by kernel_rfl⟩
theorem Try.en103:Enters Try.prog 103:=⟨_,Try.func103,rfl,by kernel_rfl⟩
theorem Try.en104:Enters Try.prog 104:=⟨_,Try.func104,rfl,by kernel_rfl⟩
theorem Try.en105:Enters Try.prog 105:=⟨_,Try.func105,rfl,by kernel_rfl⟩
theorem Try.en106:Enters Try.prog 106:=⟨_,Try.func106,rfl,by kernel_rfl⟩
theorem Try.en111:Enters Try.prog 111:=⟨_,Try.func111,rfl,by kernel_rfl⟩
theorem Try.en112:Enters Try.prog 112:=⟨_,Try.func112,rfl,by kernel_rfl⟩
theorem Try.en114:Enters Try.prog 114:=⟨_,Try.func114,rfl,by kernel_rfl⟩
theorem Try.en115:Enters Try.prog 115:=⟨_,Try.func115,rfl,by kernel_rfl⟩
theorem Try.en116:Enters Try.prog 116:=⟨_,Try.func116,rfl,by kernel_rfl⟩
theorem Try.en121:Enters Try.prog 121:=⟨_,Try.func121,rfl,by kernel_rfl⟩
theorem Try.en122:Enters Try.prog 122:=⟨_,Try.func122,rfl,by kernel_rfl⟩
theorem Try.en123:Enters Try.prog 123:=⟨_,Try.func123,rfl,by kernel_rfl⟩
theorem Try.en126:Enters Try.prog 126:=⟨_,Try.func126,rfl,by kernel_rfl⟩
end Go.Proofs.Ytikkoidgamlgnaa
