/- Fn Pieces: what impl.NumberIn returns, which calls strconv.Atoi and strconv.Itoa. -/
import Derived.Shelf.Strconv.AtoiAll
import Derived.Shelf.Strconv.Itoa3
import Derived.Shelf.LaysC
import Derived.Shelf.LaysM
import Derived.Shelf.Abstract
import Derived.Shelf.RegionOpen
import Derived.WalkKit
import Derived.OwnWalkIn
import Derived.TacticsInMore
import Derived.LoopNIn
import Derived.LoopIn
import Derived.Test.YtjgimhdmpcincaaGreatDoorProg
import Derived.Test.YtjgimhdmpcincaaGreatDoorFnPiecesL
import Derived.Test.YtjgimhdmpcincaaGreatDoorFnPiecesF
import Derived.Test.YtjgimhdmpcincaaGreatDoorFnPiecesQ
import Derived.Test.YtjgimhdmpcincaaGreatDoorFnPiecesY
import Derived.Test.YtjgimhdmpcincaaGreatDoorFnPiecesS
set_option linter.unusedVariables false
set_option linter.unusedSimpArgs false
namespace Go.Proofs.YtjgimhdmpcincaaGreatDoor
open Go.RowKit Go.X
open Go.Shelf Go.Lib Go.Sort
attribute [local go_sem] Oper.semAt_some
def XT:Go.Shelf.Ren:=⟨fun | 171=>141 | 243=>157 | 246=>174 | 283=>184 | 284=>185 | 285=>186 | 286=>187 | 129=>196 | 317=>195 | 318=>197 | 319=>198 | 320=>199 | 337=>203 | 338=>204 | n=>n,fun | 3=>3 | 9=>9 | 2=>2 | 4=>4 | 171=>190 | 0=>0 | 53=>47 | 37=>22 | 5=>5 | 173=>193 | 212=>210 | 51=>196 | 20=>20 | 213=>211 | 46=>112 | 232=>223 | 233=>224 | n=>n,fun | 17=>3 | 18=>6 | 19=>7 | n=>n⟩
theorem BY:Go.Proofs.LaysM.n171 Tryz.prog XT:={
 mixed:=by kernel_rfl
 f129:=Tryz.func196.trans (congrArg some (by kernel_rfl))
 f171:=Tryz.func141.trans (congrArg some (by kernel_rfl))
 f243:=Tryz.func157.trans (congrArg some (by kernel_rfl))
 f246:=Tryz.func174.trans (congrArg some (by kernel_rfl))
 f283:=Tryz.func184.trans (congrArg some (by kernel_rfl))
 f284:=Tryz.func185.trans (congrArg some (by kernel_rfl))
 f285:=Tryz.func186.trans (congrArg some (by kernel_rfl))
 f286:=Tryz.func187.trans (congrArg some (by kernel_rfl))
 f317:=Tryz.func195.trans (congrArg some (by kernel_rfl))
 f318:=Tryz.func197.trans (congrArg some (by kernel_rfl))
 f319:=Tryz.func198.trans (congrArg some (by kernel_rfl))
 f320:=Tryz.func199.trans (congrArg some (by kernel_rfl))
 f337:=Tryz.func203.trans (congrArg some (by kernel_rfl))
 f338:=Tryz.func204.trans (congrArg some (by kernel_rfl))
 t0:=Tryz.underlying0
 a0:=Tryz.isAgg0
 z0:=Tryz.sizeOf0
 v0:=Tryz.zeroValue0
 t2:=Tryz.underlying2
 a2:=Tryz.isAgg2
 z2:=Tryz.sizeOf2
 v2:=Tryz.zeroValue2
 t3:=Tryz.underlying3
 a3:=Tryz.isAgg3
 z3:=Tryz.sizeOf3
 v3:=Tryz.zeroValue3
 t4:=Tryz.underlying4
 a4:=Tryz.isAgg4
 z4:=Tryz.sizeOf4
 v4:=Tryz.zeroValue4
 t5:=Tryz.underlying5
 a5:=Tryz.isAgg5
 z5:=Tryz.sizeOf5
 v5:=Tryz.zeroValue5
 t9:=Tryz.underlying9
 a9:=Tryz.isAgg9
 z9:=Tryz.sizeOf9
 v9:=Tryz.zeroValue9
 t20:=Tryz.underlying20
 a20:=Tryz.isAgg20
 z20:=Tryz.sizeOf20
 v20:=Tryz.zeroValue20
 t37:=Tryz.underlying22
 a37:=Tryz.isAgg22
 z37:=Tryz.sizeOf22
 v37:=Tryz.zeroValue22
 t46:=Tryz.underlying112
 a46:=Tryz.isAgg112
 z46:=Tryz.sizeOf112
 v46:=Tryz.zeroValue112
 t51:=Tryz.underlying196
 a51:=Tryz.isAgg196
 z51:=Tryz.sizeOf196
 v51:=Tryz.zeroValue196
 t53:=Tryz.underlying47
 a53:=Tryz.isAgg47
 z53:=Tryz.sizeOf47
 v53:=Tryz.zeroValue47
 t171:=Tryz.underlying190
 a171:=Tryz.isAgg190
 z171:=Tryz.sizeOf190
 v171:=Tryz.zeroValue190
 t173:=Tryz.underlying193
 a173:=Tryz.isAgg193
 z173:=Tryz.sizeOf193
 v173:=Tryz.zeroValue193
 t212:=Tryz.underlying210
 a212:=Tryz.isAgg210
 z212:=Tryz.sizeOf210
 v212:=Tryz.zeroValue210
 t213:=Tryz.underlying211
 a213:=Tryz.isAgg211
 z213:=Tryz.sizeOf211
 t232:=Tryz.underlying223
 a232:=Tryz.isAgg223
 z232:=Tryz.sizeOf223
 v232:=Tryz.zeroValue223
 t233:=Tryz.underlying224
 a233:=Tryz.isAgg224
 z233:=Tryz.sizeOf224
 v233:=Tryz.zeroValue224
 g17:=by kernel_rfl
 g18:=by kernel_rfl
 g19:=by kernel_rfl
 i0:=by kernel_rfl
 i2:=by kernel_rfl
 i3:=by kernel_rfl
 i4:=by kernel_rfl
 i5:=by kernel_rfl
 i9:=by kernel_rfl
 i20:=by kernel_rfl
 i37:=by kernel_rfl
 i46:=by kernel_rfl
 i51:=by kernel_rfl
 i53:=by kernel_rfl
 i171:=by kernel_rfl
 i173:=by kernel_rfl
 i212:=by kernel_rfl
 i232:=by kernel_rfl
 i233:=by kernel_rfl
 m17:=by kernel_rfl
 m18:=by kernel_rfl
 m19:=by kernel_rfl}
open Go.RowKit Go.Sort Go.Lib in
/-- strconv.Itoa: "Itoa is equivalent to FormatInt(int64(i), 10).": i's DECIMAL NUMERAL ('Lib.itoa': a '-' where i is negative, then the digits), FOR EVERY int. The world behind the call: the world before it, new blocks behind the heap (the library's 'var a [24]byte'), draws. (LAID: no walk: one application.) -/
theorem strconv_Itoa(n:Int)(h0:-9223372036854775808≤n)(h1:n≤9223372036854775807)(w:World)(htab:Lib.TabIs Tryz.prog w "internal/strconv.uint64pow10" .u64 Lib.pow10Tab) :
    Calls Tryz.prog 141 #[.int .i64 n] w fun e w'=>e=.returned (.string ⟨(Lib.itoa n).toArray⟩)∧∃k os,w'=grow (w.drewN k) os:=Any.strconv_Itoa BY n h0 h1 w htab
def WT:Go.Shelf.Ren:=⟨fun | 172=>173 | 244=>182 | 245=>183 | 247=>190 | 279=>191 | 280=>192 | 281=>193 | 282=>194 | 287=>200 | 316=>201 | 171=>141 | 205=>202 | 321=>205 | 322=>206 | 243=>157 | 246=>174 | 283=>184 | 284=>185 | 285=>186 | 286=>187 | 129=>196 | 317=>195 | 318=>197 | 319=>198 | 320=>199 | 337=>203 | 338=>204 | n=>n,fun | 9=>9 | 3=>3 | 75=>154 | 76=>155 | 4=>4 | 5=>5 | 167=>203 | 37=>22 | 0=>0 | 85=>204 | 2=>2 | 168=>206 | 53=>47 | 175=>213 | 46=>112 | 210=>216 | 127=>173 | 145=>222 | 143=>220 | 21=>21 | 171=>190 | 173=>193 | 212=>210 | 51=>196 | 20=>20 | 213=>211 | 232=>223 | 233=>224 | 80=>141 | n=>n,fun | 15=>4 | 16=>5 | 17=>3 | 18=>6 | 19=>7 | n=>n⟩
theorem FR:Go.Proofs.LaysC.n172 Tryz.prog WT:={
 mixed:=by kernel_rfl
 f129:=Tryz.func196.trans (congrArg some (by kernel_rfl))
 f171:=Tryz.func141.trans (congrArg some (by kernel_rfl))
 f172:=Tryz.func173.trans (congrArg some (by kernel_rfl))
 f205:=Tryz.func202.trans (congrArg some (by kernel_rfl))
 f243:=Tryz.func157.trans (congrArg some (by kernel_rfl))
 f244:=Tryz.func182.trans (congrArg some (by kernel_rfl))
 f245:=Tryz.func183.trans (congrArg some (by kernel_rfl))
 f246:=Tryz.func174.trans (congrArg some (by kernel_rfl))
 f247:=Tryz.func190.trans (congrArg some (by kernel_rfl))
 f279:=Tryz.func191.trans (congrArg some (by kernel_rfl))
 f280:=Tryz.func192.trans (congrArg some (by kernel_rfl))
 f281:=Tryz.func193.trans (congrArg some (by kernel_rfl))
 f282:=Tryz.func194.trans (congrArg some (by kernel_rfl))
 f283:=Tryz.func184.trans (congrArg some (by kernel_rfl))
 f284:=Tryz.func185.trans (congrArg some (by kernel_rfl))
 f285:=Tryz.func186.trans (congrArg some (by kernel_rfl))
 f286:=Tryz.func187.trans (congrArg some (by kernel_rfl))
 f287:=Tryz.func200.trans (congrArg some (by kernel_rfl))
 f316:=Tryz.func201.trans (congrArg some (by kernel_rfl))
 f317:=Tryz.func195.trans (congrArg some (by kernel_rfl))
 f318:=Tryz.func197.trans (congrArg some (by kernel_rfl))
 f319:=Tryz.func198.trans (congrArg some (by kernel_rfl))
 f320:=Tryz.func199.trans (congrArg some (by kernel_rfl))
 f321:=Tryz.func205.trans (congrArg some (by kernel_rfl))
 f322:=Tryz.func206.trans (congrArg some (by kernel_rfl))
 f337:=Tryz.func203.trans (congrArg some (by kernel_rfl))
 f338:=Tryz.func204.trans (congrArg some (by kernel_rfl))
 t0:=Tryz.underlying0
 a0:=Tryz.isAgg0
 z0:=Tryz.sizeOf0
 v0:=Tryz.zeroValue0
 t2:=Tryz.underlying2
 a2:=Tryz.isAgg2
 z2:=Tryz.sizeOf2
 v2:=Tryz.zeroValue2
 t3:=Tryz.underlying3
 a3:=Tryz.isAgg3
 z3:=Tryz.sizeOf3
 v3:=Tryz.zeroValue3
 t4:=Tryz.underlying4
 a4:=Tryz.isAgg4
 z4:=Tryz.sizeOf4
 v4:=Tryz.zeroValue4
 t5:=Tryz.underlying5
 a5:=Tryz.isAgg5
 z5:=Tryz.sizeOf5
 v5:=Tryz.zeroValue5
 t9:=Tryz.underlying9
 a9:=Tryz.isAgg9
 z9:=Tryz.sizeOf9
 v9:=Tryz.zeroValue9
 t20:=Tryz.underlying20
 a20:=Tryz.isAgg20
 z20:=Tryz.sizeOf20
 v20:=Tryz.zeroValue20
 t21:=Tryz.underlying21
 a21:=Tryz.isAgg21
 z21:=Tryz.sizeOf21
 v21:=Tryz.zeroValue21
 t37:=Tryz.underlying22
 a37:=Tryz.isAgg22
 z37:=Tryz.sizeOf22
 v37:=Tryz.zeroValue22
 t46:=Tryz.underlying112
 a46:=Tryz.isAgg112
 z46:=Tryz.sizeOf112
 v46:=Tryz.zeroValue112
 t51:=Tryz.underlying196
 a51:=Tryz.isAgg196
 z51:=Tryz.sizeOf196
 v51:=Tryz.zeroValue196
 t53:=Tryz.underlying47
 a53:=Tryz.isAgg47
 z53:=Tryz.sizeOf47
 v53:=Tryz.zeroValue47
 t75:=Tryz.underlying154
 a75:=Tryz.isAgg154
 z75:=Tryz.sizeOf154
 v75:=Tryz.zeroValue154
 t76:=Tryz.underlying155
 a76:=Tryz.isAgg155
 z76:=Tryz.sizeOf155
 v76:=Tryz.zeroValue155
 t85:=Tryz.underlying204
 a85:=Tryz.isAgg204
 z85:=Tryz.sizeOf204
 v85:=Tryz.zeroValue204
 t127:=Tryz.underlying173
 a127:=Tryz.isAgg173
 z127:=Tryz.sizeOf173
 v127:=Tryz.zeroValue173
 t143:=Tryz.underlying220
 a143:=Tryz.isAgg220
 z143:=Tryz.sizeOf220
 v143:=Tryz.zeroValue220
 t145:=Tryz.underlying222
 a145:=Tryz.isAgg222
 z145:=Tryz.sizeOf222
 v145:=Tryz.zeroValue222
 t167:=Tryz.underlying203
 a167:=Tryz.isAgg203
 z167:=Tryz.sizeOf203
 v167:=Tryz.zeroValue203
 t168:=Tryz.underlying206
 a168:=Tryz.isAgg206
 z168:=Tryz.sizeOf206
 v168:=Tryz.zeroValue206
 t171:=Tryz.underlying190
 a171:=Tryz.isAgg190
 z171:=Tryz.sizeOf190
 v171:=Tryz.zeroValue190
 t173:=Tryz.underlying193
 a173:=Tryz.isAgg193
 z173:=Tryz.sizeOf193
 v173:=Tryz.zeroValue193
 t175:=Tryz.underlying213
 a175:=Tryz.isAgg213
 z175:=Tryz.sizeOf213
 v175:=Tryz.zeroValue213
 t210:=Tryz.underlying216
 a210:=Tryz.isAgg216
 z210:=Tryz.sizeOf216
 v210:=Tryz.zeroValue216
 t212:=Tryz.underlying210
 a212:=Tryz.isAgg210
 z212:=Tryz.sizeOf210
 v212:=Tryz.zeroValue210
 t213:=Tryz.underlying211
 a213:=Tryz.isAgg211
 z213:=Tryz.sizeOf211
 t232:=Tryz.underlying223
 a232:=Tryz.isAgg223
 z232:=Tryz.sizeOf223
 v232:=Tryz.zeroValue223
 t233:=Tryz.underlying224
 a233:=Tryz.isAgg224
 z233:=Tryz.sizeOf224
 v233:=Tryz.zeroValue224
 g15:=by kernel_rfl
 g16:=by kernel_rfl
 g17:=by kernel_rfl
 g18:=by kernel_rfl
 g19:=by kernel_rfl
 t80:=Tryz.underlying141
 a80:=Tryz.isAgg141
 z80:=Tryz.sizeOf141
 v80:=Tryz.zeroValue141
 i0:=by kernel_rfl
 i2:=by kernel_rfl
 i3:=by kernel_rfl
 i4:=by kernel_rfl
 i5:=by kernel_rfl
 i9:=by kernel_rfl
 i20:=by kernel_rfl
 i21:=by kernel_rfl
 i37:=by kernel_rfl
 i46:=by kernel_rfl
 i51:=by kernel_rfl
 i53:=by kernel_rfl
 i75:=by kernel_rfl
 i76:=by kernel_rfl
 i80:=by kernel_rfl
 i85:=by kernel_rfl
 i127:=by kernel_rfl
 i143:=by kernel_rfl
 i145:=by kernel_rfl
 i167:=by kernel_rfl
 i168:=by kernel_rfl
 i171:=by kernel_rfl
 i173:=by kernel_rfl
 i175:=by kernel_rfl
 i210:=by kernel_rfl
 i212:=by kernel_rfl
 i232:=by kernel_rfl
 i233:=by kernel_rfl
 m15:=by kernel_rfl
 m16:=by kernel_rfl
 m17:=by kernel_rfl
 m18:=by kernel_rfl
 m19:=by kernel_rfl
 c0:=by kernel_rfl
 c2:=by kernel_rfl
 c3:=by kernel_rfl
 c4:=by kernel_rfl
 c5:=by kernel_rfl
 c9:=by kernel_rfl
 c20:=by kernel_rfl
 c21:=by kernel_rfl
 c37:=by kernel_rfl
 c46:=by kernel_rfl
 c51:=by kernel_rfl
 c53:=by kernel_rfl
 c75:=by kernel_rfl
 c76:=by kernel_rfl
 c80:=by kernel_rfl
 c85:=by kernel_rfl
 c127:=by kernel_rfl
 c143:=by kernel_rfl
 c145:=by kernel_rfl
 c167:=by kernel_rfl
 c168:=by kernel_rfl
 c171:=by kernel_rfl
 c173:=by kernel_rfl
 c175:=by kernel_rfl
 c210:=by kernel_rfl
 c212:=by kernel_rfl
 c213:=by kernel_rfl
 c232:=by kernel_rfl
 c233:=by kernel_rfl}
open Go.RowKit in
/-- strconv.Atoi, AT EVERY STRING THAT SPELLS AN int ('Lib.atoiAll .. = .ok v'; of whatever length: leading zeros count): v, AND NO ERROR. The world: as it was, or with the one new row that '[]byte(..)' lays. (LAID: no walk: one application.) -/
theorem strconv_Atoi_ok(s:ByteArray)(hmax:s.size≤9223372036854775806)(v:Int)(h:Lib.atoiAll s.data.toList=.ok v)(w:World) :
  Calls Tryz.prog 173 #[.string s] w fun e w'=>e=.returned (.tuple #[.int .i64 v,.nilIface])∧(w'=w∨∃t,w'=Lib.bytesWorld w 5 t):=Any.strconv_Atoi_ok FR s hmax v h w
open Go.RowKit in
/-- strconv.Atoi, AT EVERY STRING THAT IS NO DECIMAL NUMERAL ('.syntax'): 0, AND AN ERROR THAT IS NOT nil: a *NumError in a new block N: {Func: "Atoi", Num: s's bytes, Err: what the variable ErrSyntax holds}. Of what was there nothing has turned. (LAID: no walk: one application.) -/
theorem strconv_Atoi_syntax(s:ByteArray)(hlim:s.size≤281474976710656)(h:Lib.atoiAll s.data.toList=Lib.NumEnd.syntax)(ev:Value)(w:World)(hv:w.cell? ⟨4,0,none⟩=some ev)(hev:ev=.nilIface∨∃te pe,ev=.iface te pe) :
  Calls Tryz.prog 173 #[.string s] w fun e w'=>∃N,e=.returned (.tuple #[.int .i64 (0),.iface 206 (.pointer (some ⟨N,0,none⟩))])∧w.heap.size≤N∧w'.heap[N]? = some (.cells #[.string ⟨#[65,116,111,105]⟩,.string s,ev] 216 (0,0))∧Below w.heap.size w w':=Any.strconv_Atoi_syntax FR s hlim h ev w hv hev
open Go.RowKit in
/-- strconv.Atoi, AT EVERY NUMERAL THAT NO int HOLDS ('.range'): THE GREATEST OR THE LEAST int, BY THE SIGN ('Lib.atoiSat'), AND AN ERROR THAT IS NOT nil: a *NumError in a new block N: {Func: "Atoi", Num: s's bytes, Err: what the variable ErrRange holds}. Of what was there nothing has turned. (LAID: no walk: one application.) -/
theorem strconv_Atoi_range(s:ByteArray)(hlim:s.size≤281474976710656)(h:Lib.atoiAll s.data.toList=.range)(ev:Value)(w:World)(hv:w.cell? ⟨5,0,none⟩=some ev)(hev:ev=.nilIface∨∃te pe,ev=.iface te pe) :
  Calls Tryz.prog 173 #[.string s] w fun e w'=>∃N,e=.returned (.tuple #[.int .i64 (Lib.atoiSat s.data.toList),.iface 206 (.pointer (some ⟨N,0,none⟩))])∧w.heap.size≤N∧w'.heap[N]? = some (.cells #[.string ⟨#[65,116,111,105]⟩,.string s,ev] 216 (0,0))∧Below w.heap.size w w':=Any.strconv_Atoi_range FR s hlim h ev w hv hev
set_option maxRecDepth 100000 in
set_option maxHeartbeats 2000000 in
theorem FU{w:World}(EG:Int)(UM:Int)(HL:Int):TF Tryz.prog 48 #[.int .i64 (EG),.int .i64 (UM),.int .i64 (HL)] w fun v w'=>v=.bool ((OD EG UM HL))∧Ex w w':=by
 refine tB Tryz.func48 rfl Tryz.ntmps48 rfl (cR (sA rfl (dn (cR (sM rfl ?_)))))
 refine sM rfl (sd rfl (zJ rfl rfl rfl (sM rfl (dI (q:=UM≤EG) (fun hb1 hb1p=>?_) (fun hb1 hb1p=>?_)))))
 ·refine sy rfl rfl hb1 (yM rfl rfl (sy rfl rfl hb1 (yM rfl rfl (sy rfl rfl hb1 (FJ rfl rfl rfl (sd rfl (KA rfl rfl hb1 rfl (sA rfl (dn (pA (rr rfl (.cons rfl .nil) ?_)))))))))))
  rw[show(OD EG UM HL)=(decide (EG≤HL))by simp only[OD,hb1,cL]]
  exact⟨rfl,(DA w)⟩
 ·refine sz rfl rfl hb1 (sz rfl rfl hb1 (sz rfl rfl hb1 (sd rfl (HA rfl rfl hb1 rfl (sA rfl (dn (pA (rr rfl (.cons rfl .nil) ?_))))))))
  rw[show(OD EG UM HL)=(false)by simp only[OD,hb1,cL]]
  exact⟨rfl,(DA w)⟩
theorem jR(w:World)(b:TypeId)(t:ByteArray):Ex w (Lib.bytesWorld w b t):=Lib.bytesWorld_below w b t
theorem rY(w:World)(k:Nat)(os:Array Obj):Ex w (grow (w.drewN k) os):=⟨rfl,rfl,rfl,by simp[grow],fun j hj=>heap_grow_old _ _ hj⟩
theorem eX{w:World}(s:uA)(ho:HE s)(hgb:GT 4 5 3 w):Calls Tryz.prog 173 #[.string (bs s)] w fun e w'=>Ex w w'∧((∃n,Lib.atoiAll s=.ok n∧e=.returned (.tuple #[.int .i64 n,.nilIface]))∨((∀n,Lib.atoiAll s≠.ok n)∧∃n t p,e=.returned (.tuple #[.int .i64 n,.iface t p]))):=by
 have hs:(bs s).data.toList=s:=rfl
 have hl:(bs s).size≤1073741824:=ho
 obtain⟨⟨⟨e1,h1,k1⟩,e2,h2,k2⟩,-⟩:=hgb
 rcases h:Lib.atoiAll s with v | _ | _
 ·refine Calls.mono (strconv_Atoi_ok (bs s) oM v (by rw[hs];exact h) w) ?_
  rintro e w' ⟨he,hw⟩
  refine⟨?_,.inl ⟨v,rfl,he⟩⟩
  rcases hw with rfl | ⟨t,rfl⟩
  ·exact DA _
  ·exact jR _ _ _
 ·refine Calls.mono (strconv_Atoi_syntax (bs s) oM (by rw[hs];exact h) e1 w h1 k1) ?_
  rintro e w' ⟨N,he,_,_,hB⟩
  exact⟨hB,.inr ⟨fun n hn=>(by cases hn),_,_,_,he⟩⟩
 ·refine Calls.mono (strconv_Atoi_range (bs s) oM (by rw[hs];exact h) e2 w h2 k2) ?_
  rintro e w' ⟨N,he,_,_,hB⟩
  exact⟨hB,.inr ⟨fun n hn=>(by cases hn),_,_,_,he⟩⟩
theorem fX{w:World}(n:Int)(h0:-9223372036854775808≤n)(h1:n≤9223372036854775807)(hgb:GT 4 5 3 w):Calls Tryz.prog 141 #[.int .i64 n] w fun e w'=>e=.returned (.string (bs (Lib.itoa n)))∧Ex w w':=by
  obtain⟨-,T,z,ht⟩:=hgb
  have hg:Tryz.prog.globalNamed "internal/strconv.uint64pow10" = some 3:=by kernel_rfl
  have htab:Lib.TabIs Tryz.prog w "internal/strconv.uint64pow10" .u64 Lib.pow10Tab:=by
    unfold Lib.TabIs World.var?
    rw[hg]
    simp only[Option.bind_some,ht]
    rfl
  refine Calls.mono (strconv_Itoa n h0 h1 w htab) ?_
  rintro e w' ⟨he,k,os,rfl⟩
  exact⟨he,rY _ _ _⟩
theorem EY{s:uA}{n:Int}(h:Lib.atoiAll s=.ok n):lH s=bif OD n (-999999) 999999&&(Lib.itoa n==s)then(n,true)else(0,false):=by
 unfold lH
 rw[h]
theorem uV{s:uA}(h:∀n,Lib.atoiAll s≠.ok n):lH s=(0,false):=by
 unfold lH
 rcases hh:Lib.atoiAll s with n | _ | _
 ·exact absurd hh (h n)
 ·rfl
 ·rfl
set_option maxRecDepth 100000 in
set_option maxHeartbeats 2000000 in
theorem GX{w:World}(XA:uA)(o1:HE XA)(hgb:GT 4 5 3 w):Calls Tryz.prog 156 #[.string (bs (XA)),.int .i64 (-999999),.int .i64 999999] w fun e w'=>e=.returned (.tuple #[.int .i64 ((lH XA).1),.bool ((lH XA).2)])∧Ex w w':=by
 refine(callsIn_wide (n:=3)).1 ?_
 refine callsIn_of_wp Tryz.func156 rfl trivial ?_ rfl
 simp only[Tryz.ntmps156,List.size_toArray,List.length_cons,List.length_nil,Nat.reduceAdd,Nat.reduceSub,Array.replicate_succ,Array.replicate_zero,List.push_toArray,List.append_toArray,List.nil_append,List.cons_append]
 have hA:=eX XA o1 hgb
 rcases hat:Lib.atoiAll XA with n | _ | _
 ·have hA:Calls Tryz.prog 173 #[.string (bs XA)] w fun e w'=>e=.returned (.tuple #[.int .i64 n,.nilIface])∧Ex w w':=hA.mono fun e w' ⟨hE,h⟩=>by
   rcases h with⟨m,h1,h2⟩ | ⟨h1,_⟩
   ·rw[hat]at h1;cases h1;exact⟨h2,hE⟩
   ·exact absurd hat (h1 n)
  have hW:∀w',Calls Tryz.prog 48 #[.int .i64 n,.int .i64 (-999999),.int .i64 999999] w' fun e w2=>e=.returned (.bool (OD n (-999999) 999999))∧Ex w' w2:=fun w'=>Calls.mono (FU n (-999999) 999999) fun e w2 ⟨v,h1,h2,h3⟩=>⟨by rw[h1,h2],h3⟩
  rw[EY hat]
  cases hw:OD n (-999999) 999999
  ·simp only[hw]at hW
   gi_wp2_with (first | (refine⟨trivial,?_⟩;gi_at_call 173;refine(callsIn_wide.2 hA).mono ?_;rintro e w1 ⟨rfl,hE1⟩) | (refine⟨trivial,?_⟩;gi_at_call 48;refine(callsIn_wide.2 (hW _)).mono ?_;rintro e w2 ⟨rfl,hE2⟩))
   refine⟨trivial,?_⟩
   gi_wp2
   go_ret2
   exact⟨rfl,hE1.trans hE2⟩
  ·have hb:=OM hw
   have hI:∀w',Ex w w'→Calls Tryz.prog 141 #[.int .i64 n] w' fun e w2=>e=.returned (.string (bs (Lib.itoa n)))∧Ex w' w2:=fun w' hE=>fX n oM oM (hgb.ex hE)
   simp only[hw]at hW
   cases hc:Lib.itoa n==XA
   ·have hcmp:((bs (Lib.itoa n)).toList==(bs XA).toList)=false:=by rw[VJ,VJ];exact hc
    gi_wp2_with (first | (refine⟨trivial,?_⟩;gi_at_call 173;refine(callsIn_wide.2 hA).mono ?_;rintro e w1 ⟨rfl,hE1⟩) | (refine⟨trivial,?_⟩;gi_at_call 48;refine(callsIn_wide.2 (hW _)).mono ?_;rintro e w2 ⟨rfl,hE2⟩) | (refine⟨trivial,?_⟩;gi_at_call 141;refine(callsIn_wide.2 (hI _ (cA hE1 hE2))).mono ?_;rintro e w3 ⟨rfl,hE3⟩))
    go_ret2
    exact⟨rfl,hE1.trans (hE2.trans hE3)⟩
   ·have he:Lib.itoa n=XA:=by simpa using hc
    rw[he]at hI
    have hcmp:((bs XA).toList==(bs XA).toList)=true:=beq_self_eq_true _
    gi_wp2_with (first | (refine⟨trivial,?_⟩;gi_at_call 173;refine(callsIn_wide.2 hA).mono ?_;rintro e w1 ⟨rfl,hE1⟩) | (refine⟨trivial,?_⟩;gi_at_call 48;refine(callsIn_wide.2 (hW _)).mono ?_;rintro e w2 ⟨rfl,hE2⟩) | (refine⟨trivial,?_⟩;gi_at_call 141;refine(callsIn_wide.2 (hI _ (cA hE1 hE2))).mono ?_;rintro e w3 ⟨rfl,hE3⟩))
    go_ret2
    exact⟨rfl,hE1.trans (hE2.trans hE3)⟩
 ·have hA:Calls Tryz.prog 173 #[.string (bs XA)] w fun e w'=>(∃n t p,e=.returned (.tuple #[.int .i64 n,.iface t p]))∧Ex w w':=hA.mono fun e w' ⟨hE,h⟩=>by
   rcases h with⟨m,h1,h2⟩ | ⟨_,h2⟩
   ·rw[hat]at h1;cases h1
   ·exact⟨h2,hE⟩
  rw[uV fun n=>by rw[hat];simp]
  gi_wp2_with (refine⟨trivial,?_⟩;gi_at_call 173;refine(callsIn_wide.2 hA).mono ?_;rintro e w1 ⟨⟨n,t,p,rfl⟩,hE1⟩)
  refine⟨trivial,?_⟩
  gi_wp2
  refine⟨trivial,?_⟩
  gi_wp2
  go_ret2
  exact⟨rfl,hE1⟩
 ·have hA:Calls Tryz.prog 173 #[.string (bs XA)] w fun e w'=>(∃n t p,e=.returned (.tuple #[.int .i64 n,.iface t p]))∧Ex w w':=hA.mono fun e w' ⟨hE,h⟩=>by
   rcases h with⟨m,h1,h2⟩ | ⟨_,h2⟩
   ·rw[hat]at h1;cases h1
   ·exact⟨h2,hE⟩
  rw[uV fun n=>by rw[hat];simp]
  gi_wp2_with (refine⟨trivial,?_⟩;gi_at_call 173;refine(callsIn_wide.2 hA).mono ?_;rintro e w1 ⟨⟨n,t,p,rfl⟩,hE1⟩)
  refine⟨trivial,?_⟩
  gi_wp2
  refine⟨trivial,?_⟩
  gi_wp2
  go_ret2
  exact⟨rfl,hE1⟩
set_option maxRecDepth 100000 in
set_option maxHeartbeats 2000000 in
theorem zT{w:World}(XA:uA)(o1:HE XA)(hgb:GT 4 5 3 w):TF Tryz.prog 140 #[.string (bs (XA))] w fun v w'=>v=.tuple #[.int .i64 ((lH XA).1),.bool ((lH XA).2)]∧Ex w w':=by
 have hR:=GX XA o1 hgb
 generalize lH XA=r at hR ⊢
 refine(callsIn_wide (n:=3)).1 ?_
 refine callsIn_of_wp Tryz.func140 rfl trivial ?_ rfl
 simp only[Tryz.ntmps140,List.size_toArray,List.length_cons,List.length_nil,Nat.reduceAdd,Nat.reduceSub,Array.replicate_succ,Array.replicate_zero,List.push_toArray,List.append_toArray,List.nil_append,List.cons_append]
 gi_wp2_with (refine⟨trivial,?_⟩;gi_at_call 156;refine(callsIn_wide.2 hR).mono ?_;rintro e w1 ⟨rfl,hE1⟩)
 go_ret2
 exact⟨_,rfl,rfl,hE1⟩
end Go.Proofs.YtjgimhdmpcincaaGreatDoor
