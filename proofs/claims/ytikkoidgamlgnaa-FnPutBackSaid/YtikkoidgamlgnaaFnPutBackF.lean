/- Fn Put Back: facts of the types and functions of the translation. -/
import Derived.Test.YtikkoidgamlgnaaProg
import Derived.Test.YtikkoidgamlgnaaFnPutBackT
set_option linter.unusedVariables false
set_option linter.unusedSimpArgs false
namespace Go.Proofs.Ytikkoidgamlgnaa
open Go.RowKit Go.X
theorem Try.follows:Try.prog.follows .mixedOrders=true:=by kernel_rfl
theorem Try.ty3:HF Try.prog 3=some (1,8,some (.int .i64 (0)),false):=by kernel_rfl
theorem Try.ty4:HF Try.prog 4=some (1,1,some (.bool (false)),false):=by kernel_rfl
theorem Try.ty5:HF Try.prog 5=some (1,1,some (.int .u8 (0)),false):=by kernel_rfl
theorem Try.ty9:HF Try.prog 9=some (1,16,some (.string (bs (([]:tB)))),false):=by kernel_rfl
theorem Try.ty22:HF Try.prog 22=some (1,24,some (.slice none 0 0),false):=by kernel_rfl
theorem Try.ty24:HF Try.prog 24=some (1,24,some (.slice none 0 0),false):=by kernel_rfl
theorem Try.ty26:HF Try.prog 26=some (2,32,some (.agg #[.int .i64 (0),.slice none 0 0]),true):=by kernel_rfl
theorem Try.ty57:HF Try.prog 57=some (3,40,some (.agg #[.string (bs (([]:tB))),.string (bs (([]:tB))),.bool (false)]),true):=by kernel_rfl
theorem Try.ty73:HF Try.prog 73=some (3,32,some (.agg #[.int .i64 (0),.string (bs (([]:tB))),.bool (false)]),true):=by kernel_rfl
theorem Try.ty74:HF Try.prog 74=some (1,24,some (.slice none 0 0),false):=by kernel_rfl
theorem Try.ty76:HF Try.prog 76=some (2,40,some (.agg #[.string (bs (([]:tB))),.slice none 0 0]),true):=by kernel_rfl
theorem Try.ty78:HF Try.prog 78=some (1,8,some (.int .u64 (0)),false):=by kernel_rfl
theorem Try.fd26_0:EE Try.prog 26 0=some (0,0+1,false):=by kernel_rfl
theorem Try.fd26_1:EE Try.prog 26 1=some (1,0+1,false):=by kernel_rfl
theorem Try.fd57_0:EE Try.prog 57 0=some (0,0+1,false):=by kernel_rfl
theorem Try.fd57_1:EE Try.prog 57 1=some (1,0+1,false):=by kernel_rfl
theorem Try.fd57_2:EE Try.prog 57 2=some (2,0+1,false):=by kernel_rfl
theorem Try.fd73_0:EE Try.prog 73 0=some (0,0+1,false):=by kernel_rfl
theorem Try.fd73_1:EE Try.prog 73 1=some (1,0+1,false):=by kernel_rfl
theorem Try.fd73_2:EE Try.prog 73 2=some (2,0+1,false):=by kernel_rfl
theorem Try.fd76_0:EE Try.prog 76 0=some (0,0+1,false):=by kernel_rfl
theorem Try.fd76_1:EE Try.prog 76 1=some (1,0+1,false):=by kernel_rfl
theorem Try.fd80_0:EE Try.prog 80 0=some (0,0+1,false):=by kernel_rfl
theorem Try.fd80_1:EE Try.prog 80 1=some (1,0+1,false):=by kernel_rfl
theorem Try.fd80_2:EE Try.prog 80 2=some (2,0+1,false):=by kernel_rfl
theorem Try.un3:Try.prog.underlying 3=some (.int .i64):=by kernel_rfl
theorem Try.un4:Try.prog.underlying 4=some (.bool):=by kernel_rfl
theorem Try.un5:Try.prog.underlying 5=some (.int .u8):=by kernel_rfl
theorem Try.un9:Try.prog.underlying 9=some (.string):=by kernel_rfl
theorem Try.un22:Try.prog.underlying 22=some (.slice 5):=by kernel_rfl
theorem Try.un24:Try.prog.underlying 24=some (.slice 57):=by kernel_rfl
theorem Try.un42:Try.prog.underlying 42=some (.slice 76):=by kernel_rfl
theorem Try.un74:Try.prog.underlying 74=some (.slice 73):=by kernel_rfl
theorem Try.un78:Try.prog.underlying 78=some (.int .u64):=by kernel_rfl
theorem Try.un91:Try.prog.underlying 91=some (.slice 9):=by kernel_rfl
theorem Try.un99:Try.prog.underlying 99=some (.slice 3):=by kernel_rfl
theorem Try.ae57{x y:FA}:AM Try.prog 57 (gC x) (gC y) ((x.Key==y.Key)&&((x.Val==y.Val)&&(x.Gone==y.Gone))):=by
 refine⟨by kernel_rfl,fun w=>?_⟩
 have u4:=Try.underlying4;have a4:=Try.isAgg4;have z4:=Try.sizeOf4
 have u9:=Try.underlying9;have a9:=Try.isAgg9;have z9:=Try.sizeOf9
 rw[run_equalIn_struct w 9999 57 _ _ (by kernel_rfl) (by kernel_rfl)]
 simp only[Program.fieldsOf,Try.underlying57,gC,List.toArray]
 go_simp
 simp only[LF]
 by_cases h0:x.Key=y.Key<;>by_cases h1:x.Val=y.Val<;>by_cases h2:x.Gone=y.Gone<;>simp[h0,h1,h2]
theorem Try.ex127:zN Try.prog 127 Extern.BytealgIndexByte.indexByte:=⟨_,Try.func127,by kernel_rfl,by kernel_rfl,by kernel_rfl,by kernel_rfl⟩
theorem Try.en6:Enters Try.prog 6:=⟨_,Try.func6,rfl,by kernel_rfl⟩
theorem Try.en12:Enters Try.prog 12:=⟨_,Try.func12,rfl,by kernel_rfl⟩
theorem Try.en18:Enters Try.prog 18:=⟨_,Try.func18,rfl,by kernel_rfl⟩
theorem Try.en19:Enters Try.prog 19:=⟨_,Try.func19,rfl,by kernel_rfl⟩
theorem Try.en20:Enters Try.prog 20:=⟨_,Try.func20,rfl,by kernel_rfl⟩
theorem Try.en21:Enters Try.prog 21:=⟨_,Try.func21,rfl,by kernel_rfl⟩
theorem Try.en22:Enters Try.prog 22:=⟨_,Try.func22,rfl,by kernel_rfl⟩
theorem Try.en23:Enters Try.prog 23:=⟨_,Try.func23,rfl,by kernel_rfl⟩
theorem Try.en24:Enters Try.prog 24:=⟨_,Try.func24,rfl,by kernel_rfl⟩
theorem Try.en26:Enters Try.prog 26:=⟨_,Try.func26,rfl,by kernel_rfl⟩
theorem Try.en42:Enters Try.prog 42:=⟨_,Try.func42,rfl,by kernel_rfl⟩
theorem Try.en43:Enters Try.prog 43:=⟨_,Try.func43,rfl,by kernel_rfl⟩
theorem Try.en44:Enters Try.prog 44:=⟨_,Try.func44,rfl,by kernel_rfl⟩
theorem Try.en45:Enters Try.prog 45:=⟨_,Try.func45,rfl,by kernel_rfl⟩
theorem Try.en46:Enters Try.prog 46:=⟨_,Try.func46,rfl,by kernel_rfl⟩
theorem Try.en47:Enters Try.prog 47:=⟨_,Try.func47,rfl,by kernel_rfl⟩
theorem Try.en48:Enters Try.prog 48:=⟨_,Try.func48,rfl,by kernel_rfl⟩
theorem Try.en50:Enters Try.prog 50:=⟨_,Try.func50,rfl,by kernel_rfl⟩
theorem Try.en54:Enters Try.prog 54:=⟨_,Try.func54,rfl,by kernel_rfl⟩
theorem Try.en58:Enters Try.prog 58:=⟨_,Try.func58,rfl,by kernel_rfl⟩
theorem Try.en66:Enters Try.prog 66:=⟨_,Try.func66,rfl,by kernel_rfl⟩
theorem Try.en67:Enters Try.prog 67:=⟨_,Try.func67,rfl,by kernel_rfl⟩
theorem Try.en68:Enters Try.prog 68:=⟨_,Try.func68,rfl,by kernel_rfl⟩
theorem Try.en69:Enters Try.prog 69:=⟨_,Try.func69,rfl,by kernel_rfl⟩
theorem Try.en70:Enters Try.prog 70:=⟨_,Try.func70,rfl,by kernel_rfl⟩
theorem Try.en71:Enters Try.prog 71:=⟨_,Try.func71,rfl,by kernel_rfl⟩
theorem Try.en72:Enters Try.prog 72:=⟨_,Try.func72,rfl,by kernel_rfl⟩
theorem Try.en73:Enters Try.prog 73:=⟨_,Try.func73,rfl,by kernel_rfl⟩
theorem Try.en75:Enters Try.prog 75:=⟨_,Try.func75,rfl,by kernel_rfl⟩
theorem Try.en76:Enters Try.prog 76:=⟨_,Try.func76,rfl,by kernel_rfl⟩
theorem Try.en78:Enters Try.prog 78:=⟨_,Try.func78,rfl,by kernel_rfl⟩
theorem Try.en79:Enters Try.prog 79:=⟨_,Try.func79,rfl,by kernel_rfl⟩
theorem Try.en80:Enters Try.prog 80:=⟨_,Try.func80,rfl,by kernel_rfl⟩
theorem Try.en82:Enters Try.prog 82:=⟨_,Try.func82,rfl,by kernel_rfl⟩
theorem Try.en91:Enters Try.prog 91:=⟨_,Try.func91,rfl,by kernel_rfl⟩
theorem Try.en92:Enters Try.prog 92:=⟨_,Try.func92,rfl,by kernel_rfl⟩
theorem Try.en93:Enters Try.prog 93:=⟨_,Try.func93,rfl,by kernel_rfl⟩
theorem Try.en94:Enters Try.prog 94:=⟨_,Try.func94,rfl,by kernel_rfl⟩
theorem Try.en96:Enters Try.prog 96:=⟨_,Try.func96,rfl,by kernel_rfl⟩
theorem Try.en97:Enters Try.prog 97:=⟨_,Try.func97,rfl,by kernel_rfl⟩
theorem Try.en98:Enters Try.prog 98:=⟨_,Try.func98,rfl,by kernel_rfl⟩
theorem Try.en99:Enters Try.prog 99:=⟨_,Try.func99,rfl,by kernel_rfl⟩
theorem Try.en100:Enters Try.prog 100:=⟨_,Try.func100,rfl,by kernel_rfl⟩
theorem Try.en101:Enters Try.prog 101:=⟨_,Try.func101,rfl,by kernel_rfl⟩
theorem Try.en102:Enters Try.prog 102:=⟨_,Try.func102,rfl,by kernel_rfl⟩
theorem Try.en103:Enters Try.prog 103:=⟨_,Try.func103,rfl,by kernel_rfl⟩
theorem Try.en104:Enters Try.prog 104:=⟨_,Try.func104,rfl,by kernel_rfl⟩
theorem Try.en105:Enters Try.prog 105:=⟨_,Try.func105,rfl,by kernel_rfl⟩
theorem Try.en106:Enters Try.prog 106:=⟨_,Try.func106,rfl,by kernel_rfl⟩
theorem Try.en111:Enters Try.prog 111:=⟨_,Try.func111,rfl,by kernel_rfl⟩
theorem Try.en112:Enters Try.prog 112:=⟨_,Try.func112,rfl,by kernel_rfl⟩
theorem Try.en114:Enters Try.prog 114:=⟨_,Try.func114,rfl,by kernel_rfl⟩
theorem Try.en115:Enters Try.prog 115:=⟨_,Try.func115,rfl,by kernel_rfl⟩
theorem Try.en116:Enters Try.prog 116:=⟨_,Try.func116,rfl,by kernel_rfl⟩
theorem Try.en121:Enters Try.prog 121:=⟨_,Try.func121,rfl,by kernel_rfl⟩
theorem Try.en122:Enters Try.prog 122:=⟨_,Try.func122,rfl,by kernel_rfl⟩
theorem Try.en123:Enters Try.prog 123:=⟨_,Try.func123,rfl,by kernel_rfl⟩
theorem Try.en126:Enters Try.prog 126:=⟨_,Try.func126,rfl,by kernel_rfl⟩
end Go.Proofs.Ytikkoidgamlgnaa
