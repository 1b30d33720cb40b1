/- Fn Diff Bytes: facts of the types and functions of the translation. -/
import Derived.Test.YtikkoidgamlgnaaProg
import Derived.Test.YtikkoidgamlgnaaFnDiffBytesT
set_option linter.unusedVariables false
set_option linter.unusedSimpArgs false
namespace Go.Proofs.Ytikkoidgamlgnaa
open Go.RowKit Go.X
theorem Try.follows:Try.prog.follows .mixedOrders=true:=by kernel_rfl
theorem Try.ty3:gH Try.prog 3=some (1,8,some (.int .i64 (0)),false):=by kernel_rfl
theorem Try.ty4:gH Try.prog 4=some (1,1,some (.bool (false)),false):=by kernel_rfl
theorem Try.ty5:gH Try.prog 5=some (1,1,some (.int .u8 (0)),false):=by kernel_rfl
theorem Try.ty9:gH Try.prog 9=some (1,16,some (.string (bs (([]:uB)))),false):=by kernel_rfl
theorem Try.ty22:gH Try.prog 22=some (1,24,some (.slice none 0 0),false):=by kernel_rfl
theorem Try.ty34:gH Try.prog 34=some (1,24,some (.slice none 0 0),false):=by kernel_rfl
theorem Try.ty36:gH Try.prog 36=some (3,40,some (.agg #[.int .i64 (0),.int .i64 (0),.slice none 0 0]),true):=by kernel_rfl
theorem Try.ty57:gH Try.prog 57=some (3,40,some (.agg #[.string (bs (([]:uB))),.string (bs (([]:uB))),.bool (false)]),true):=by kernel_rfl
theorem Try.ty67:gH Try.prog 67=some (5,56,some (.agg #[.int .i64 (0),.int .i64 (0),.string (bs (([]:uB))),.string (bs (([]:uB))),.bool (false)]),true):=by kernel_rfl
theorem Try.ty73:gH Try.prog 73=some (3,32,some (.agg #[.int .i64 (0),.string (bs (([]:uB))),.bool (false)]),true):=by kernel_rfl
theorem Try.ty74:gH Try.prog 74=some (1,24,some (.slice none 0 0),false):=by kernel_rfl
theorem Try.ty76:gH Try.prog 76=some (2,40,some (.agg #[.string (bs (([]:uB))),.slice none 0 0]),true):=by kernel_rfl
theorem Try.ty78:gH Try.prog 78=some (1,8,some (.int .u64 (0)),false):=by kernel_rfl
theorem Try.fd36_0:AE Try.prog 36 0=some (0,0+1,false):=by kernel_rfl
theorem Try.fd36_1:AE Try.prog 36 1=some (1,0+1,false):=by kernel_rfl
theorem Try.fd36_2:AE Try.prog 36 2=some (2,0+1,false):=by kernel_rfl
theorem Try.fd57_0:AE Try.prog 57 0=some (0,0+1,false):=by kernel_rfl
theorem Try.fd57_1:AE Try.prog 57 1=some (1,0+1,false):=by kernel_rfl
theorem Try.fd57_2:AE Try.prog 57 2=some (2,0+1,false):=by kernel_rfl
theorem Try.fd61_0:AE Try.prog 61 0=some (0,0+1,false):=by kernel_rfl
theorem Try.fd61_1:AE Try.prog 61 1=some (1,0+1,false):=by kernel_rfl
theorem Try.fd61_2:AE Try.prog 61 2=some (2,0+1,false):=by kernel_rfl
theorem Try.fd67_0:AE Try.prog 67 0=some (0,0+1,false):=by kernel_rfl
theorem Try.fd67_1:AE Try.prog 67 1=some (1,0+1,false):=by kernel_rfl
theorem Try.fd67_2:AE Try.prog 67 2=some (2,0+1,false):=by kernel_rfl
theorem Try.fd67_3:AE Try.prog 67 3=some (3,0+1,false):=by kernel_rfl
theorem Try.fd67_4:AE Try.prog 67 4=some (4,0+1,false):=by kernel_rfl
theorem Try.fd73_0:AE Try.prog 73 0=some (0,0+1,false):=by kernel_rfl
theorem Try.fd73_1:AE Try.prog 73 1=some (1,0+1,false):=by kernel_rfl
theorem Try.fd73_2:AE Try.prog 73 2=some (2,0+1,false):=by kernel_rfl
theorem Try.fd76_0:AE Try.prog 76 0=some (0,0+1,false):=by kernel_rfl
theorem Try.fd76_1:AE Try.prog 76 1=some (1,0+1,false):=by kernel_rfl
theorem Try.fd80_0:AE Try.prog 80 0=some (0,0+1,false):=by kernel_rfl
theorem Try.fd80_1:AE Try.prog 80 1=some (1,0+1,false):=by kernel_rfl
theorem Try.fd80_2:AE Try.prog 80 2=some (2,0+1,false):=by kernel_rfl
theorem Try.un3:Try.prog.underlying 3=some (.int .i64):=by kernel_rfl
theorem Try.un4:Try.prog.underlying 4=some (.bool):=by kernel_rfl
theorem Try.un5:Try.prog.underlying 5=some (.int .u8):=by kernel_rfl
theorem Try.un9:Try.prog.underlying 9=some (.string):=by kernel_rfl
theorem Try.un22:Try.prog.underlying 22=some (.slice 5):=by kernel_rfl
theorem Try.un24:Try.prog.underlying 24=some (.slice 57):=by kernel_rfl
theorem Try.un34:Try.prog.underlying 34=some (.slice 67):=by kernel_rfl
theorem Try.un42:Try.prog.underlying 42=some (.slice 76):=by kernel_rfl
theorem Try.un74:Try.prog.underlying 74=some (.slice 73):=by kernel_rfl
theorem Try.un78:Try.prog.underlying 78=some (.int .u64):=by kernel_rfl
theorem Try.un91:Try.prog.underlying 91=some (.slice 9):=by kernel_rfl
theorem Try.un99:Try.prog.underlying 99=some (.slice 3):=by kernel_rfl
theorem Try.ae67{x y:nA}:FN Try.prog 67 (WA x) (WA y) (decide (x.Time=y.Time)&&(decide (x.Group=y.Group)&&((x.Key==y.Key)&&((x.Val==y.Val)&&(x.Gone==y.Gone))))):=by
 refine⟨by kernel_rfl,fun w=>?_⟩
 have u3:=Try.underlying3;have a3:=Try.isAgg3;have z3:=Try.sizeOf3
 have u4:=Try.underlying4;have a4:=Try.isAgg4;have z4:=Try.sizeOf4
 have u9:=Try.underlying9;have a9:=Try.isAgg9;have z9:=Try.sizeOf9
 rw[run_equalIn_struct w 9999 67 _ _ (by kernel_rfl) (by kernel_rfl)]
 simp only[Program.fieldsOf,Try.underlying67,WA,List.toArray]
 go_simp
 simp only[lH]
 by_cases h0:x.Time=y.Time<;>by_cases h1:x.Group=y.Group<;>by_cases h2:x.Key=y.Key<;>by_cases h3:x.Val=y.Val<;>by_cases h4:x.Gone=y.Gone<;>simp[h0,h1,h2,h3,h4]
theorem Try.ex127:jQ Try.prog 127 Extern.BytealgIndexByte.indexByte:=⟨_,Try.func127,by kernel_rfl,by kernel_rfl,by kernel_rfl,by kernel_rfl⟩
theorem Try.en6:Enters Try.prog 6:=⟨_,Try.func6,rfl,by kernel_rfl⟩
theorem Try.en11:Enters Try.prog 11:=⟨_,Try.func11,rfl,by kernel_rfl⟩
theorem Try.en13:Enters Try.prog 13:=⟨_,Try.func13,rfl,by kernel_rfl⟩
theorem Try.en14:Enters Try.prog 14:=⟨_,Try.func14,rfl,by kernel_rfl⟩
theorem Try.en15:Enters Try.prog 15:=⟨_,Try.func15,rfl,by kernel_rfl⟩
theorem Try.en16:Enters Try.prog 16:=⟨_,Try.func16,rfl,by kernel_rfl⟩
theorem Try.en17:Enters Try.prog 17:=⟨_,Try.func17,rfl,by kernel_rfl⟩
theorem Try.en29:Enters Try.prog 29:=⟨_,Try.func29,rfl,by kernel_rfl⟩
theorem Try.en30:Enters Try.prog 30:=⟨_,Try.func30,rfl,by kernel_rfl⟩
theorem Try.en31:Enters Try.prog 31:=⟨_,Try.func31,rfl,by kernel_rfl⟩
theorem Try.en32:Enters Try.prog 32:=⟨_,Try.func32,rfl,by kernel_rfl⟩
theorem Try.en33:Enters Try.prog 33:=⟨_,Try.func33,rfl,by kernel_rfl⟩
theorem Try.en34:Enters Try.prog 34:=⟨_,Try.func34,rfl,by kernel_rfl⟩
theorem Try.en35:Enters Try.prog 35:=⟨_,Try.func35,rfl,by kernel_rfl⟩
theorem Try.en36:Enters Try.prog 36:=⟨_,Try.func36,rfl,by kernel_rfl⟩
theorem Try.en37:Enters Try.prog 37:=⟨_,Try.func37,rfl,by kernel_rfl⟩
theorem Try.en38:Enters Try.prog 38:=⟨_,Try.func38,rfl,by kernel_rfl⟩
theorem Try.en39:Enters Try.prog 39:=⟨_,Try.func39,rfl,by kernel_rfl⟩
theorem Try.en40:Enters Try.prog 40:=⟨_,Try.func40,rfl,by kernel_rfl⟩
theorem Try.en41:Enters Try.prog 41:=⟨_,Try.func41,rfl,by kernel_rfl⟩
theorem Try.en44:Enters Try.prog 44:=⟨_,Try.func44,rfl,by kernel_rfl⟩
theorem Try.en46:Enters Try.prog 46:=⟨_,Try.func46,rfl,by kernel_rfl⟩
theorem Try.en51:Enters Try.prog 51:=⟨_,Try.func51,rfl,by kernel_rfl⟩
theorem Try.en52:Enters Try.prog 52:=⟨_,Try.func52,rfl,by kernel_rfl⟩
theorem Try.en53:Enters Try.prog 53:=⟨_,Try.func53,rfl,by kernel_rfl⟩
theorem Try.en54:Enters Try.prog 54:=⟨_,Try.func54,rfl,by kernel_rfl⟩
theorem Try.en56:Enters Try.prog 56:=⟨_,Try.func56,rfl,by kernel_rfl⟩
theorem Try.en57:Enters Try.prog 57:=⟨_,Try.func57,rfl,by kernel_rfl⟩
theorem Try.en58:Enters Try.prog 58:=⟨_,Try.func58,rfl,by kernel_rfl⟩
theorem Try.en59:Enters Try.prog 59:=⟨_,Try.func59,rfl,by kernel_rfl⟩
theorem Try.en60:Enters Try.prog 60:=⟨_,Try.func60,rfl,by kernel_rfl⟩
theorem Try.en61:Enters Try.prog 61:=⟨_,Try.func61,rfl,by kernel_rfl⟩
theorem Try.en62:Enters Try.prog 62:=⟨_,Try.func62,rfl,by kernel_rfl⟩
theorem Try.en63:Enters Try.prog 63:=⟨_,Try.func63,rfl,by kernel_rfl⟩
theorem Try.en64:Enters Try.prog 64:=⟨_,Try.func64,rfl,by kernel_rfl⟩
theorem Try.en65:Enters Try.prog 65:=⟨_,Try.func65,rfl,by kernel_rfl⟩
theorem Try.en67:Enters Try.prog 67:=⟨_,Try.func67,rfl,by kernel_rfl⟩
theorem Try.en71:Enters Try.prog 71:=⟨_,Try.func71,rfl,by kernel_rfl⟩
theorem Try.en73:Enters Try.prog 73:=⟨_,Try.func73,rfl,by kernel_rfl⟩
theorem Try.en74:Enters Try.prog 74:=⟨_,Try.func74,rfl,by kernel_rfl⟩
theorem Try.en75:Enters Try.prog 75:=⟨_,Try.func75,rfl,by kernel_rfl⟩
theorem Try.en76:Enters Try.prog 76:=⟨_,Try.func76,rfl,by kernel_rfl⟩
theorem Try.en77:Enters Try.prog 77:=⟨_,Try.func77,rfl,by kernel_rfl⟩
theorem Try.en81:Enters Try.prog 81:=⟨_,Try.func81,rfl,by kernel_rfl⟩
theorem Try.en82:Enters Try.prog 82:=⟨_,Try.func82,rfl,by kernel_rfl⟩
theorem Try.en83:Enters Try.prog 83:=⟨_,Try.func83,rfl,by kernel_rfl⟩
theorem Try.en84:Enters Try.prog 84:=⟨_,Try.func84,rfl,by kernel_rfl⟩
theorem Try.en85:Enters Try.prog 85:=⟨_,Try.func85,rfl,by kernel_rfl⟩
theorem Try.en86:Enters Try.prog 86:=⟨_,Try.func86,rfl,by kernel_rfl⟩
theorem Try.en87:Enters Try.prog 87:=⟨_,Try.func87,rfl,by kernel_rfl⟩
theorem Try.en88:Enters Try.prog 88:=⟨_,Try.func88,rfl,by kernel_rfl⟩
theorem Try.en89:Enters Try.prog 89:=⟨_,Try.func89,rfl,by kernel_rfl⟩
theorem Try.en90:Enters Try.prog 90:=⟨_,Try.func90,rfl,by kernel_rfl⟩
theorem Try.en91:Enters Try.prog 91:=⟨_,Try.func91,rfl,by kernel_rfl⟩
theorem Try.en92:Enters Try.prog 92:=⟨_,Try.func92,rfl,by kernel_rfl⟩
theorem Try.en93:Enters Try.prog 93:=⟨_,Try.func93,rfl,by kernel_rfl⟩
theorem Try.en94:Enters Try.prog 94:=⟨_,Try.func94,rfl,by kernel_rfl⟩
theorem Try.en96:Enters Try.prog 96:=⟨_,Try.func96,rfl,by kernel_rfl⟩
theorem Try.en97:Enters Try.prog 97:=⟨_,Try.func97,rfl,by kernel_rfl⟩
theorem Try.en98:Enters Try.prog 98:=⟨_,Try.func98,rfl,by kernel_rfl⟩
theorem Try.en99:Enters Try.prog 99:=⟨_,Try.func99,rfl,by kernel_rfl⟩
theorem Try.en100:Enters Try.prog 100:=⟨_,Try.func100,rfl,by kernel_rfl⟩
theorem Try.en101:Enters Try.prog 101:=⟨_,Try.func101,rfl,by kernel_rfl⟩
theorem Try.en102:Enters Try.prog 102:=⟨_,Try.func102,rfl,by kernel_rfl⟩
theorem Try.en106:Enters Try.prog 106:=⟨_,Try.func106,rfl,by kernel_rfl⟩
theorem Try.en107:Enters Try.prog 107:=⟨_,Try.func107,rfl,by kernel_rfl⟩
theorem Try.en108:Enters Try.prog 108:=⟨_,Try.func108,rfl,by kernel_rfl⟩
theorem Try.en109:Enters Try.prog 109:=⟨_,Try.func109,rfl,by kernel_rfl⟩
theorem Try.en110:Enters Try.prog 110:=⟨_,Try.func110,rfl,by kernel_rfl⟩
theorem Try.en111:Enters Try.prog 111:=⟨_,Try.func111,rfl,by kernel_rfl⟩
theorem Try.en112:Enters Try.prog 112:=⟨_,Try.func112,rfl,by kernel_rfl⟩
theorem Try.en114:Enters Try.prog 114:=⟨_,Try.func114,rfl,by kernel_rfl⟩
theorem Try.en115:Enters Try.prog 115:=⟨_,Try.func115,rfl,by kernel_rfl⟩
theorem Try.en116:Enters Try.prog 116:=⟨_,Try.func116,rfl,by kernel_rfl⟩
theorem Try.en117:Enters Try.prog 117:=⟨_,Try.func117,rfl,by kernel_rfl⟩
theorem Try.en118:Enters Try.prog 118:=⟨_,Try.func118,rfl,by kernel_rfl⟩
theorem Try.en119:Enters Try.prog 119:=⟨_,Try.func119,rfl,by kernel_rfl⟩
theorem Try.en120:Enters Try.prog 120:=⟨_,Try.func120,rfl,by kernel_rfl⟩
theorem Try.en121:Enters Try.prog 121:=⟨_,Try.func121,rfl,by kernel_rfl⟩
theorem Try.en122:Enters Try.prog 122:=⟨_,Try.func122,rfl,by kernel_rfl⟩
theorem Try.en123:Enters Try.prog 123:=⟨_,Try.func123,rfl,by kernel_rfl⟩
theorem Try.en124:Enters Try.prog 124:=⟨_,Try.func124,rfl,by kernel_rfl⟩
theorem Try.en125:Enters Try.prog 125:=⟨_,Try.func125,rfl,by kernel_rfl⟩
theorem Try.en126:Enters Try.prog 126:=⟨_,Try.func126,rfl,by kernel_rfl⟩
end Go.Proofs.Ytikkoidgamlgnaa
