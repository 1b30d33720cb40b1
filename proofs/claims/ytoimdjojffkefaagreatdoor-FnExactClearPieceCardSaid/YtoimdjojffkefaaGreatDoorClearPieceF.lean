/- Clear Piece: facts of the types and functions of the translation. -/
import Derived.Test.YtoimdjojffkefaaGreatDoorProg
import Derived.Test.YtoimdjojffkefaaGreatDoorClearPieceT
set_option linter.unusedVariables false
set_option linter.unusedSimpArgs false
namespace Go.Proofs.YtoimdjojffkefaaGreatDoor
open Go.RowKit Go.X
theorem Tryz.follows:Tryz.prog.follows .mixedOrders=true:=by kernel_rfl
theorem Tryz.ty3:QI Tryz.prog 3=some (1,8,some (.int .i64 (0)),false):=by kernel_rfl
theorem Tryz.ty4:QI Tryz.prog 4=some (1,1,some (.bool (false)),false):=by kernel_rfl
theorem Tryz.ty5:QI Tryz.prog 5=some (1,1,some (.int .u8 (0)),false):=by kernel_rfl
theorem Tryz.ty9:QI Tryz.prog 9=some (1,16,some (.string (bs (([]:QA)))),false):=by kernel_rfl
theorem Tryz.ty22:QI Tryz.prog 22=some (1,24,some (.slice none 0 0),false):=by kernel_rfl
theorem Tryz.ty23:QI Tryz.prog 23=some (1,24,some (.slice none 0 0),false):=by kernel_rfl
theorem Tryz.ty25:QI Tryz.prog 25=some (3,64,some (.agg #[.string (bs (([]:QA))),.slice none 0 0,.slice none 0 0]),true):=by kernel_rfl
theorem Tryz.ty37:QI Tryz.prog 37=some (1,24,some (.slice none 0 0),false):=by kernel_rfl
theorem Tryz.ty39:QI Tryz.prog 39=some (3,64,some (.agg #[.string (bs (([]:QA))),.slice none 0 0,.slice none 0 0]),true):=by kernel_rfl
theorem Tryz.ty54:QI Tryz.prog 54=some (2,24,some (.agg #[.string (bs (([]:QA))),.bool (false)]),true):=by kernel_rfl
theorem Tryz.ty56:QI Tryz.prog 56=some (2,24,some (.agg #[.string (bs (([]:QA))),.bool (false)]),true):=by kernel_rfl
theorem Tryz.ty71:QI Tryz.prog 71=some (3,40,some (.agg #[.string (bs (([]:QA))),.string (bs (([]:QA))),.bool (false)]),true):=by kernel_rfl
theorem Tryz.ty77:QI Tryz.prog 77=some (1,24,some (.slice none 0 0),false):=by kernel_rfl
theorem Tryz.ty80:QI Tryz.prog 80=some (3,40,some (.agg #[.string (bs (([]:QA))),.string (bs (([]:QA))),.bool (false)]),true):=by kernel_rfl
theorem Tryz.ty106:QI Tryz.prog 106=some (3,32,some (.agg #[.string (bs (([]:QA))),.int .i64 (0),.int .i64 (0)]),true):=by kernel_rfl
theorem Tryz.ty111:QI Tryz.prog 111=some (3,32,some (.agg #[.string (bs (([]:QA))),.int .i64 (0),.int .i64 (0)]),true):=by kernel_rfl
theorem Tryz.ty122:QI Tryz.prog 122=some (4,48,some (.agg #[.int .i64 (0),.string (bs (([]:QA))),.string (bs (([]:QA))),.int .i64 (0)]),true):=by kernel_rfl
theorem Tryz.ty135:QI Tryz.prog 135=some (2,40,some (.agg #[.string (bs (([]:QA))),.slice none 0 0]),true):=by kernel_rfl
theorem Tryz.ty170:QI Tryz.prog 170=some (3,40,some (.agg #[.string (bs (([]:QA))),.string (bs (([]:QA))),.bool (false)]),true):=by kernel_rfl
theorem Tryz.fd25_0:JE Tryz.prog 25 0=some (0,0+1,false):=by kernel_rfl
theorem Tryz.fd25_1:JE Tryz.prog 25 1=some (1,0+1,false):=by kernel_rfl
theorem Tryz.fd25_2:JE Tryz.prog 25 2=some (2,0+1,false):=by kernel_rfl
theorem Tryz.fd39_0:JE Tryz.prog 39 0=some (0,0+1,false):=by kernel_rfl
theorem Tryz.fd39_1:JE Tryz.prog 39 1=some (1,0+1,false):=by kernel_rfl
theorem Tryz.fd39_2:JE Tryz.prog 39 2=some (2,0+1,false):=by kernel_rfl
theorem Tryz.fd54_0:JE Tryz.prog 54 0=some (0,0+1,false):=by kernel_rfl
theorem Tryz.fd54_1:JE Tryz.prog 54 1=some (1,0+1,false):=by kernel_rfl
theorem Tryz.fd56_0:JE Tryz.prog 56 0=some (0,0+1,false):=by kernel_rfl
theorem Tryz.fd56_1:JE Tryz.prog 56 1=some (1,0+1,false):=by kernel_rfl
theorem Tryz.fd71_0:JE Tryz.prog 71 0=some (0,0+1,false):=by kernel_rfl
theorem Tryz.fd71_1:JE Tryz.prog 71 1=some (1,0+1,false):=by kernel_rfl
theorem Tryz.fd71_2:JE Tryz.prog 71 2=some (2,0+1,false):=by kernel_rfl
theorem Tryz.fd80_0:JE Tryz.prog 80 0=some (0,0+1,false):=by kernel_rfl
theorem Tryz.fd80_1:JE Tryz.prog 80 1=some (1,0+1,false):=by kernel_rfl
theorem Tryz.fd80_2:JE Tryz.prog 80 2=some (2,0+1,false):=by kernel_rfl
theorem Tryz.fd106_0:JE Tryz.prog 106 0=some (0,0+1,false):=by kernel_rfl
theorem Tryz.fd106_1:JE Tryz.prog 106 1=some (1,0+1,false):=by kernel_rfl
theorem Tryz.fd106_2:JE Tryz.prog 106 2=some (2,0+1,false):=by kernel_rfl
theorem Tryz.fd111_0:JE Tryz.prog 111 0=some (0,0+1,false):=by kernel_rfl
theorem Tryz.fd111_1:JE Tryz.prog 111 1=some (1,0+1,false):=by kernel_rfl
theorem Tryz.fd111_2:JE Tryz.prog 111 2=some (2,0+1,false):=by kernel_rfl
theorem Tryz.fd122_0:JE Tryz.prog 122 0=some (0,0+1,false):=by kernel_rfl
theorem Tryz.fd122_1:JE Tryz.prog 122 1=some (1,0+1,false):=by kernel_rfl
theorem Tryz.fd122_2:JE Tryz.prog 122 2=some (2,0+1,false):=by kernel_rfl
theorem Tryz.fd122_3:JE Tryz.prog 122 3=some (3,0+1,false):=by kernel_rfl
theorem Tryz.fd135_0:JE Tryz.prog 135 0=some (0,0+1,false):=by kernel_rfl
theorem Tryz.fd135_1:JE Tryz.prog 135 1=some (1,0+1,false):=by kernel_rfl
theorem Tryz.fd170_0:JE Tryz.prog 170 0=some (0,0+1,false):=by kernel_rfl
theorem Tryz.fd170_1:JE Tryz.prog 170 1=some (1,0+1,false):=by kernel_rfl
theorem Tryz.fd170_2:JE Tryz.prog 170 2=some (2,0+1,false):=by kernel_rfl
theorem Tryz.un3:Tryz.prog.underlying 3=some (.int .i64):=by kernel_rfl
theorem Tryz.un4:Tryz.prog.underlying 4=some (.bool):=by kernel_rfl
theorem Tryz.un5:Tryz.prog.underlying 5=some (.int .u8):=by kernel_rfl
theorem Tryz.un9:Tryz.prog.underlying 9=some (.string):=by kernel_rfl
theorem Tryz.un22:Tryz.prog.underlying 22=some (.slice 9):=by kernel_rfl
theorem Tryz.un23:Tryz.prog.underlying 23=some (.slice 106):=by kernel_rfl
theorem Tryz.un26:Tryz.prog.underlying 26=some (.slice 71):=by kernel_rfl
theorem Tryz.un34:Tryz.prog.underlying 34=some (.slice 80):=by kernel_rfl
theorem Tryz.un37:Tryz.prog.underlying 37=some (.slice 111):=by kernel_rfl
theorem Tryz.un77:Tryz.prog.underlying 77=some (.slice 122):=by kernel_rfl
theorem Tryz.un97:Tryz.prog.underlying 97=some (.slice 135):=by kernel_rfl
theorem Tryz.un107:Tryz.prog.underlying 107=some (.slice 4):=by kernel_rfl
theorem Tryz.un110:Tryz.prog.underlying 110=some (.slice 77):=by kernel_rfl
theorem Tryz.un117:Tryz.prog.underlying 117=some (.slice 170):=by kernel_rfl
theorem Tryz.un127:Tryz.prog.underlying 127=some (.slice 5):=by kernel_rfl
theorem Tryz.un229:Tryz.prog.underlying 229=some (.int .u64):=by kernel_rfl
theorem Tryz.un252:Tryz.prog.underlying 252=some (.int .u32):=by kernel_rfl
theorem Tryz.ex208:PW Tryz.prog 208 (Extern.SlicesOverlaps.overlaps #[34,34] #[4]):=⟨_,Tryz.func208,by kernel_rfl,by kernel_rfl,by kernel_rfl,by kernel_rfl⟩
theorem Tryz.ex254:PW Tryz.prog 254 Extern.BytealgIndexByte.indexByte:=⟨_,Tryz.func254,by kernel_rfl,by kernel_rfl,by kernel_rfl,by kernel_rfl⟩
theorem Tryz.en7:Enters Tryz.prog 7:=⟨_,Tryz.func7,rfl,by kernel_rfl⟩
theorem Tryz.en8:Enters Tryz.prog 8:=⟨_,Tryz.func8,rfl,by kernel_rfl⟩
theorem Tryz.en11:Enters Tryz.prog 11:=⟨_,Tryz.func11,rfl,by kernel_rfl⟩
theorem Tryz.en12:Enters Tryz.prog 12:=⟨_,Tryz.func12,rfl,by kernel_rfl⟩
theorem Tryz.en15:Enters Tryz.prog 15:=⟨_,Tryz.func15,rfl,by kernel_rfl⟩
theorem Tryz.en16:Enters Tryz.prog 16:=⟨_,Tryz.func16,rfl,by kernel_rfl⟩
theorem Tryz.en18:Enters Tryz.prog 18:=⟨_,Tryz.func18,rfl,by kernel_rfl⟩
theorem Tryz.en19:Enters Tryz.prog 19:=⟨_,Tryz.func19,rfl,by kernel_rfl⟩
theorem Tryz.en21:Enters Tryz.prog 21:=⟨_,Tryz.func21,rfl,by kernel_rfl⟩
theorem Tryz.en22:Enters Tryz.prog 22:=⟨_,Tryz.func22,rfl,by kernel_rfl⟩
theorem Tryz.en23:Enters Tryz.prog 23:=⟨_,Tryz.func23,rfl,by kernel_rfl⟩
theorem Tryz.en24:Enters Tryz.prog 24:=⟨_,Tryz.func24,rfl,by kernel_rfl⟩
theorem Tryz.en25:Enters Tryz.prog 25:=⟨_,Tryz.func25,rfl,by kernel_rfl⟩
theorem Tryz.en26:Enters Tryz.prog 26:=⟨_,Tryz.func26,rfl,by kernel_rfl⟩
theorem Tryz.en29:Enters Tryz.prog 29:=⟨_,Tryz.func29,rfl,by kernel_rfl⟩
theorem Tryz.en31:Enters Tryz.prog 31:=⟨_,Tryz.func31,rfl,by kernel_rfl⟩
theorem Tryz.en33:Enters Tryz.prog 33:=⟨_,Tryz.func33,rfl,by kernel_rfl⟩
theorem Tryz.en34:Enters Tryz.prog 34:=⟨_,Tryz.func34,rfl,by kernel_rfl⟩
theorem Tryz.en36:Enters Tryz.prog 36:=⟨_,Tryz.func36,rfl,by kernel_rfl⟩
theorem Tryz.en37:Enters Tryz.prog 37:=⟨_,Tryz.func37,rfl,by kernel_rfl⟩
theorem Tryz.en40:Enters Tryz.prog 40:=⟨_,Tryz.func40,rfl,by kernel_rfl⟩
theorem Tryz.en41:Enters Tryz.prog 41:=⟨_,Tryz.func41,rfl,by kernel_rfl⟩
theorem Tryz.en43:Enters Tryz.prog 43:=⟨_,Tryz.func43,rfl,by kernel_rfl⟩
theorem Tryz.en44:Enters Tryz.prog 44:=⟨_,Tryz.func44,rfl,by kernel_rfl⟩
theorem Tryz.en47:Enters Tryz.prog 47:=⟨_,Tryz.func47,rfl,by kernel_rfl⟩
theorem Tryz.en48:Enters Tryz.prog 48:=⟨_,Tryz.func48,rfl,by kernel_rfl⟩
theorem Tryz.en50:Enters Tryz.prog 50:=⟨_,Tryz.func50,rfl,by kernel_rfl⟩
theorem Tryz.en51:Enters Tryz.prog 51:=⟨_,Tryz.func51,rfl,by kernel_rfl⟩
theorem Tryz.en53:Enters Tryz.prog 53:=⟨_,Tryz.func53,rfl,by kernel_rfl⟩
theorem Tryz.en54:Enters Tryz.prog 54:=⟨_,Tryz.func54,rfl,by kernel_rfl⟩
theorem Tryz.en56:Enters Tryz.prog 56:=⟨_,Tryz.func56,rfl,by kernel_rfl⟩
theorem Tryz.en57:Enters Tryz.prog 57:=⟨_,Tryz.func57,rfl,by kernel_rfl⟩
theorem Tryz.en58:Enters Tryz.prog 58:=⟨_,Tryz.func58,rfl,by kernel_rfl⟩
theorem Tryz.en59:Enters Tryz.prog 59:=⟨_,Tryz.func59,rfl,by kernel_rfl⟩
theorem Tryz.en60:Enters Tryz.prog 60:=⟨_,Tryz.func60,rfl,by kernel_rfl⟩
theorem Tryz.en61:Enters Tryz.prog 61:=⟨_,Tryz.func61,rfl,by kernel_rfl⟩
theorem Tryz.en62:Enters Tryz.prog 62:=⟨_,Tryz.func62,rfl,by kernel_rfl⟩
theorem Tryz.en65:Enters Tryz.prog 65:=⟨_,Tryz.func65,rfl,by kernel_rfl⟩
theorem Tryz.en67:Enters Tryz.prog 67:=⟨_,Tryz.func67,rfl,by kernel_rfl⟩
theorem Tryz.en68:Enters Tryz.prog 68:=⟨_,Tryz.func68,rfl,by kernel_rfl⟩
theorem Tryz.en70:Enters Tryz.prog 70:=⟨_,Tryz.func70,rfl,by kernel_rfl⟩
theorem Tryz.en72:Enters Tryz.prog 72:=⟨_,Tryz.func72,rfl,by kernel_rfl⟩
theorem Tryz.en73:Enters Tryz.prog 73:=⟨_,Tryz.func73,rfl,by kernel_rfl⟩
theorem Tryz.en76:Enters Tryz.prog 76:=⟨_,Tryz.func76,rfl,by kernel_rfl⟩
theorem Tryz.en78:Enters Tryz.prog 78:=⟨_,Tryz.func78,rfl,by kernel_rfl⟩
theorem Tryz.en79:Enters Tryz.prog 79:=⟨_,Tryz.func79,rfl,by kernel_rfl⟩
theorem Tryz.en80:Enters Tryz.prog 80:=⟨_,Tryz.func80,rfl,by kernel_rfl⟩
theorem Tryz.en81:Enters Tryz.prog 81:=⟨_,Tryz.func81,rfl,by kernel_rfl⟩
theorem Tryz.en82:Enters Tryz.prog 82:=⟨_,Tryz.func82,rfl,by kernel_rfl⟩
theorem Tryz.en88:Enters Tryz.prog 88:=⟨_,Tryz.func88,rfl,by kernel_rfl⟩
theorem Tryz.en89:Enters Tryz.prog 89:=⟨_,Tryz.func89,rfl,by kernel_rfl⟩
theorem Tryz.en90:Enters Tryz.prog 90:=⟨_,Tryz.func90,rfl,by kernel_rfl⟩
theorem Tryz.en91:Enters Tryz.prog 91:=⟨_,Tryz.func91,rfl,by kernel_rfl⟩
theorem Tryz.en92:Enters Tryz.prog 92:=⟨_,Tryz.func92,rfl,by kernel_rfl⟩
theorem Tryz.en93:Enters Tryz.prog 93:=⟨_,Tryz.func93,rfl,by kernel_rfl⟩
theorem Tryz.en94:Enters Tryz.prog 94:=⟨_,Tryz.func94,rfl,by kernel_rfl⟩
theorem Tryz.en95:Enters Tryz.prog 95:=⟨_,Tryz.func95,rfl,by kernel_rfl⟩
theorem Tryz.en96:Enters Tryz.prog 96:=⟨_,Tryz.func96,rfl,by kernel_rfl⟩
theorem Tryz.en97:Enters Tryz.prog 97:=⟨_,Tryz.func97,rfl,by kernel_rfl⟩
theorem Tryz.en98:Enters Tryz.prog 98:=⟨_,Tryz.func98,rfl,by kernel_rfl⟩
theorem Tryz.en99:Enters Tryz.prog 99:=⟨_,Tryz.func99,rfl,by kernel_rfl⟩
theorem Tryz.en100:Enters Tryz.prog 100:=⟨_,Tryz.func100,rfl,by kernel_rfl⟩
theorem Tryz.en107:Enters Tryz.prog 107:=⟨_,Tryz.func107,rfl,by kernel_rfl⟩
theorem Tryz.en108:Enters Tryz.prog 108:=⟨_,Tryz.func108,rfl,by kernel_rfl⟩
theorem Tryz.en113:Enters Tryz.prog 113:=⟨_,Tryz.func113,rfl,by kernel_rfl⟩
theorem Tryz.en114:Enters Tryz.prog 114:=⟨_,Tryz.func114,rfl,by kernel_rfl⟩
theorem Tryz.en115:Enters Tryz.prog 115:=⟨_,Tryz.func115,rfl,by kernel_rfl⟩
theorem Tryz.en121:Enters Tryz.prog 121:=⟨_,Tryz.func121,rfl,by kernel_rfl⟩
theorem Tryz.en122:Enters Tryz.prog 122:=⟨_,Tryz.func122,rfl,by kernel_rfl⟩
theorem Tryz.en123:Enters Tryz.prog 123:=⟨_,Tryz.func123,rfl,by kernel_rfl⟩
theorem Tryz.en124:Enters Tryz.prog 124:=⟨_,Tryz.func124,rfl,by kernel_rfl⟩
theorem Tryz.en127:Enters Tryz.prog 127:=⟨_,Tryz.func127,rfl,by kernel_rfl⟩
theorem Tryz.en128:Enters Tryz.prog 128:=⟨_,Tryz.func128,rfl,by kernel_rfl⟩
theorem Tryz.en129:Enters Tryz.prog 129:=⟨_,Tryz.func129,rfl,by kernel_rfl⟩
theorem Tryz.en130:Enters Tryz.prog 130:=⟨_,Tryz.func130,rfl,by kernel_rfl⟩
theorem Tryz.en131:Enters Tryz.prog 131:=⟨_,Tryz.func131,rfl,by kernel_rfl⟩
theorem Tryz.en132:Enters Tryz.prog 132:=⟨_,Tryz.func132,rfl,by kernel_rfl⟩
theorem Tryz.en133:Enters Tryz.prog 133:=⟨_,Tryz.func133,rfl,by kernel_rfl⟩
theorem Tryz.en134:Enters Tryz.prog 134:=⟨_,Tryz.func134,rfl,by kernel_rfl⟩
theorem Tryz.en135:Enters Tryz.prog 135:=⟨_,Tryz.func135,rfl,by kernel_rfl⟩
theorem Tryz.en136:Enters Tryz.prog 136:=⟨_,Tryz.func136,rfl,by kernel_rfl⟩
theorem Tryz.en137:Enters Tryz.prog 137:=⟨_,Tryz.func137,rfl,by kernel_rfl⟩
theorem Tryz.en139:Enters Tryz.prog 139:=⟨_,Tryz.func139,rfl,by kernel_rfl⟩
theorem Tryz.en140:Enters Tryz.prog 140:=⟨_,Tryz.func140,rfl,by kernel_rfl⟩
theorem Tryz.en141:Enters Tryz.prog 141:=⟨_,Tryz.func141,rfl,by kernel_rfl⟩
theorem Tryz.en142:Enters Tryz.prog 142:=⟨_,Tryz.func142,rfl,by kernel_rfl⟩
theorem Tryz.en143:Enters Tryz.prog 143:=⟨_,Tryz.func143,rfl,by kernel_rfl⟩
theorem Tryz.en144:Enters Tryz.prog 144:=⟨_,Tryz.func144,rfl,by kernel_rfl⟩
theorem Tryz.en147:Enters Tryz.prog 147:=⟨_,Tryz.func147,rfl,by kernel_rfl⟩
theorem Tryz.en149:Enters Tryz.prog 149:=⟨_,Tryz.func149,rfl,by kernel_rfl⟩
theorem Tryz.en154:Enters Tryz.prog 154:=⟨_,Tryz.func154,rfl,by kernel_rfl⟩
theorem Tryz.en163:Enters Tryz.prog 163:=⟨_,Tryz.func163,rfl,by kernel_rfl⟩
theorem Tryz.en167:Enters Tryz.prog 167:=⟨_,Tryz.func167,rfl,by kernel_rfl⟩
theorem Tryz.en168:Enters Tryz.prog 168:=⟨_,Tryz.func168,rfl,by kernel_rfl⟩
theorem Tryz.en169:Enters Tryz.prog 169:=⟨_,Tryz.func169,rfl,by kernel_rfl⟩
theorem Tryz.en170:Enters Tryz.prog 170:=⟨_,Tryz.func170,rfl,by kernel_rfl⟩
theorem Tryz.en171:Enters Tryz.prog 171:=⟨_,Tryz.func171,rfl,by kernel_rfl⟩
theorem Tryz.en172:Enters Tryz.prog 172:=⟨_,Tryz.func172,rfl,by kernel_rfl⟩
theorem Tryz.en175:Enters Tryz.prog 175:=⟨_,Tryz.func175,rfl,by kernel_rfl⟩
theorem Tryz.en176:Enters Tryz.prog 176:=⟨_,Tryz.func176,rfl,by kernel_rfl⟩
theorem Tryz.en177:Enters Tryz.prog 177:=⟨_,Tryz.func177,rfl,by kernel_rfl⟩
theorem Tryz.en178:Enters Tryz.prog 178:=⟨_,Tryz.func178,rfl,by kernel_rfl⟩
theorem Tryz.en179:Enters Tryz.prog 179:=⟨_,Tryz.func179,rfl,by kernel_rfl⟩
theorem Tryz.en181:Enters Tryz.prog 181:=⟨_,Tryz.func181,rfl,by kernel_rfl⟩
theorem Tryz.en182:Enters Tryz.prog 182:=⟨_,Tryz.func182,rfl,by kernel_rfl⟩
theorem Tryz.en183:Enters Tryz.prog 183:=⟨_,Tryz.func183,rfl,by kernel_rfl⟩
theorem Tryz.en184:Enters Tryz.prog 184:=⟨_,Tryz.func184,rfl,by kernel_rfl⟩
theorem Tryz.en185:Enters Tryz.prog 185:=⟨_,Tryz.func185,rfl,by kernel_rfl⟩
theorem Tryz.en186:Enters Tryz.prog 186:=⟨_,Tryz.func186,rfl,by kernel_rfl⟩
theorem Tryz.en196:Enters Tryz.prog 196:=⟨_,Tryz.func196,rfl,by kernel_rfl⟩
theorem Tryz.en199:Enters Tryz.prog 199:=⟨_,Tryz.func199,rfl,by kernel_rfl⟩
theorem Tryz.en200:Enters Tryz.prog 200:=⟨_,Tryz.func200,rfl,by kernel_rfl⟩
theorem Tryz.en201:Enters Tryz.prog 201:=⟨_,Tryz.func201,rfl,by kernel_rfl⟩
theorem Tryz.en202:Enters Tryz.prog 202:=⟨_,Tryz.func202,rfl,by kernel_rfl⟩
theorem Tryz.en206:Enters Tryz.prog 206:=⟨_,Tryz.func206,rfl,by kernel_rfl⟩
theorem Tryz.en207:Enters Tryz.prog 207:=⟨_,Tryz.func207,rfl,by kernel_rfl⟩
theorem Tryz.en210:Enters Tryz.prog 210:=⟨_,Tryz.func210,rfl,by kernel_rfl⟩
theorem Tryz.en211:Enters Tryz.prog 211:=⟨_,Tryz.func211,rfl,by kernel_rfl⟩
theorem Tryz.en212:Enters Tryz.prog 212:=⟨_,Tryz.func212,rfl,by kernel_rfl⟩
theorem Tryz.en213:Enters Tryz.prog 213:=⟨_,Tryz.func213,rfl,by kernel_rfl⟩
theorem Tryz.en214:Enters Tryz.prog 214:=⟨_,Tryz.func214,rfl,by kernel_rfl⟩
theorem Tryz.en215:Enters Tryz.prog 215:=⟨_,Tryz.func215,rfl,by kernel_rfl⟩
theorem Tryz.en231:Enters Tryz.prog 231:=⟨_,Tryz.func231,rfl,by kernel_rfl⟩
theorem Tryz.en232:Enters Tryz.prog 232:=⟨_,Tryz.func232,rfl,by kernel_rfl⟩
theorem Tryz.en236:Enters Tryz.prog 236:=⟨_,Tryz.func236,rfl,by kernel_rfl⟩
theorem Tryz.en237:Enters Tryz.prog 237:=⟨_,Tryz.func237,rfl,by kernel_rfl⟩
theorem Tryz.en238:Enters Tryz.prog 238:=⟨_,Tryz.func238,rfl,by kernel_rfl⟩
end Go.Proofs.YtoimdjojffkefaaGreatDoor
