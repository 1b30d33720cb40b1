/- Clear Piece: what impl.NumberIn returns, which calls strconv.Atoi and strconv.Itoa. -/
import Derived.Shelf.Strconv.AtoiAll
import Derived.Shelf.Strconv.Itoa3
import Derived.Shelf.LaysC
import Derived.Shelf.LaysM
import Derived.Shelf.Abstract
import Derived.Shelf.RegionOpen
import Derived.WalkKit
import Derived.OwnWalkIn
import Derived.TacticsInMore
import Derived.LoopNIn
import Derived.LoopIn
import Derived.Test.YtoimdjojffkefaaGreatDoorProg
import Derived.Test.YtoimdjojffkefaaGreatDoorClearPieceL
import Derived.Test.YtoimdjojffkefaaGreatDoorClearPieceF
import Derived.Test.YtoimdjojffkefaaGreatDoorClearPieceY
set_option linter.unusedVariables false
set_option linter.unusedSimpArgs false
namespace Go.Proofs.YtoimdjojffkefaaGreatDoor
open Go.RowKit Go.X
open Go.Shelf Go.Lib Go.Sort
attribute [local go_sem] Oper.semAt_some
def YP:Go.Shelf.Ren:=⟨fun | 171=>180 | 243=>205 | 246=>234 | 283=>249 | 284=>250 | 285=>251 | 286=>252 | 129=>228 | 317=>265 | 318=>266 | 319=>267 | 320=>268 | 337=>273 | 338=>274 | n=>n,fun | 3=>3 | 9=>9 | 2=>2 | 4=>4 | 171=>268 | 0=>0 | 53=>254 | 37=>127 | 5=>5 | 173=>270 | 212=>284 | 51=>252 | 20=>20 | 213=>285 | 46=>229 | 232=>301 | 233=>302 | n=>n,fun | 17=>1 | 18=>6 | 19=>7 | n=>n⟩
theorem GU:Go.Proofs.LaysM.n171 Tryz.prog YP:={
 mixed:=by kernel_rfl
 f129:=Tryz.func228.trans (congrArg some (by kernel_rfl))
 f171:=Tryz.func180.trans (congrArg some (by kernel_rfl))
 f243:=Tryz.func205.trans (congrArg some (by kernel_rfl))
 f246:=Tryz.func234.trans (congrArg some (by kernel_rfl))
 f283:=Tryz.func249.trans (congrArg some (by kernel_rfl))
 f284:=Tryz.func250.trans (congrArg some (by kernel_rfl))
 f285:=Tryz.func251.trans (congrArg some (by kernel_rfl))
 f286:=Tryz.func252.trans (congrArg some (by kernel_rfl))
 f317:=Tryz.func265.trans (congrArg some (by kernel_rfl))
 f318:=Tryz.func266.trans (congrArg some (by kernel_rfl))
 f319:=Tryz.func267.trans (congrArg some (by kernel_rfl))
 f320:=Tryz.func268.trans (congrArg some (by kernel_rfl))
 f337:=Tryz.func273.trans (congrArg some (by kernel_rfl))
 f338:=Tryz.func274.trans (congrArg some (by kernel_rfl))
 t0:=Tryz.underlying0
 a0:=Tryz.isAgg0
 z0:=Tryz.sizeOf0
 v0:=Tryz.zeroValue0
 t2:=Tryz.underlying2
 a2:=Tryz.isAgg2
 z2:=Tryz.sizeOf2
 v2:=Tryz.zeroValue2
 t3:=Tryz.underlying3
 a3:=Tryz.isAgg3
 z3:=Tryz.sizeOf3
 v3:=Tryz.zeroValue3
 t4:=Tryz.underlying4
 a4:=Tryz.isAgg4
 z4:=Tryz.sizeOf4
 v4:=Tryz.zeroValue4
 t5:=Tryz.underlying5
 a5:=Tryz.isAgg5
 z5:=Tryz.sizeOf5
 v5:=Tryz.zeroValue5
 t9:=Tryz.underlying9
 a9:=Tryz.isAgg9
 z9:=Tryz.sizeOf9
 v9:=Tryz.zeroValue9
 t20:=Tryz.underlying20
 a20:=Tryz.isAgg20
 z20:=Tryz.sizeOf20
 v20:=Tryz.zeroValue20
 t37:=Tryz.underlying127
 a37:=Tryz.isAgg127
 z37:=Tryz.sizeOf127
 v37:=Tryz.zeroValue127
 t46:=Tryz.underlying229
 a46:=Tryz.isAgg229
 z46:=Tryz.sizeOf229
 v46:=Tryz.zeroValue229
 t51:=Tryz.underlying252
 a51:=Tryz.isAgg252
 z51:=Tryz.sizeOf252
 v51:=Tryz.zeroValue252
 t53:=Tryz.underlying254
 a53:=Tryz.isAgg254
 z53:=Tryz.sizeOf254
 v53:=Tryz.zeroValue254
 t171:=Tryz.underlying268
 a171:=Tryz.isAgg268
 z171:=Tryz.sizeOf268
 v171:=Tryz.zeroValue268
 t173:=Tryz.underlying270
 a173:=Tryz.isAgg270
 z173:=Tryz.sizeOf270
 v173:=Tryz.zeroValue270
 t212:=Tryz.underlying284
 a212:=Tryz.isAgg284
 z212:=Tryz.sizeOf284
 v212:=Tryz.zeroValue284
 t213:=Tryz.underlying285
 a213:=Tryz.isAgg285
 z213:=Tryz.sizeOf285
 t232:=Tryz.underlying301
 a232:=Tryz.isAgg301
 z232:=Tryz.sizeOf301
 v232:=Tryz.zeroValue301
 t233:=Tryz.underlying302
 a233:=Tryz.isAgg302
 z233:=Tryz.sizeOf302
 v233:=Tryz.zeroValue302
 g17:=by kernel_rfl
 g18:=by kernel_rfl
 g19:=by kernel_rfl
 i0:=by kernel_rfl
 i2:=by kernel_rfl
 i3:=by kernel_rfl
 i4:=by kernel_rfl
 i5:=by kernel_rfl
 i9:=by kernel_rfl
 i20:=by kernel_rfl
 i37:=by kernel_rfl
 i46:=by kernel_rfl
 i51:=by kernel_rfl
 i53:=by kernel_rfl
 i171:=by kernel_rfl
 i173:=by kernel_rfl
 i212:=by kernel_rfl
 i232:=by kernel_rfl
 i233:=by kernel_rfl
 m17:=by kernel_rfl
 m18:=by kernel_rfl
 m19:=by kernel_rfl}
open Go.RowKit Go.Sort Go.Lib in
/-- strconv.Itoa: "Itoa is equivalent to FormatInt(int64(i), 10).": i's DECIMAL NUMERAL ('Lib.itoa': a '-' where i is negative, then the digits), FOR EVERY int. The world behind the call: the world before it, new blocks behind the heap (the library's 'var a [24]byte'), draws. (LAID: no walk: one application.) -/
theorem strconv_Itoa(n:Int)(h0:-9223372036854775808≤n)(h1:n≤9223372036854775807)(w:World)(htab:Lib.TabIs Tryz.prog w "internal/strconv.uint64pow10" .u64 Lib.pow10Tab) :
    Calls Tryz.prog 180 #[.int .i64 n] w fun e w'=>e=.returned (.string ⟨(Lib.itoa n).toArray⟩)∧∃k os,w'=grow (w.drewN k) os:=Any.strconv_Itoa GU n h0 h1 w htab
def XP:Go.Shelf.Ren:=⟨fun | 172=>233 | 244=>247 | 245=>248 | 247=>260 | 279=>261 | 280=>262 | 281=>263 | 282=>264 | 287=>270 | 316=>271 | 171=>180 | 205=>272 | 321=>275 | 322=>276 | 243=>205 | 246=>234 | 283=>249 | 284=>250 | 285=>251 | 286=>252 | 129=>228 | 317=>265 | 318=>266 | 319=>267 | 320=>268 | 337=>273 | 338=>274 | n=>n,fun | 9=>9 | 3=>3 | 75=>209 | 76=>210 | 4=>4 | 5=>5 | 167=>277 | 37=>127 | 0=>0 | 85=>278 | 2=>2 | 168=>280 | 53=>254 | 175=>292 | 46=>229 | 210=>295 | 127=>231 | 145=>300 | 143=>298 | 21=>21 | 171=>268 | 173=>270 | 212=>284 | 51=>252 | 20=>20 | 213=>285 | 232=>301 | 233=>302 | 80=>212 | n=>n,fun | 15=>4 | 16=>5 | 17=>1 | 18=>6 | 19=>7 | n=>n⟩
theorem dO:Go.Proofs.LaysC.n172 Tryz.prog XP:={
 mixed:=by kernel_rfl
 f129:=Tryz.func228.trans (congrArg some (by kernel_rfl))
 f171:=Tryz.func180.trans (congrArg some (by kernel_rfl))
 f172:=Tryz.func233.trans (congrArg some (by kernel_rfl))
 f205:=Tryz.func272.trans (congrArg some (by kernel_rfl))
 f243:=Tryz.func205.trans (congrArg some (by kernel_rfl))
 f244:=Tryz.func247.trans (congrArg some (by kernel_rfl))
 f245:=Tryz.func248.trans (congrArg some (by kernel_rfl))
 f246:=Tryz.func234.trans (congrArg some (by kernel_rfl))
 f247:=Tryz.func260.trans (congrArg some (by kernel_rfl))
 f279:=Tryz.func261.trans (congrArg some (by kernel_rfl))
 f280:=Tryz.func262.trans (congrArg some (by kernel_rfl))
 f281:=Tryz.func263.trans (congrArg some (by kernel_rfl))
 f282:=Tryz.func264.trans (congrArg some (by kernel_rfl))
 f283:=Tryz.func249.trans (congrArg some (by kernel_rfl))
 f284:=Tryz.func250.trans (congrArg some (by kernel_rfl))
 f285:=Tryz.func251.trans (congrArg some (by kernel_rfl))
 f286:=Tryz.func252.trans (congrArg some (by kernel_rfl))
 f287:=Tryz.func270.trans (congrArg some (by kernel_rfl))
 f316:=Tryz.func271.trans (congrArg some (by kernel_rfl))
 f317:=Tryz.func265.trans (congrArg some (by kernel_rfl))
 f318:=Tryz.func266.trans (congrArg some (by kernel_rfl))
 f319:=Tryz.func267.trans (congrArg some (by kernel_rfl))
 f320:=Tryz.func268.trans (congrArg some (by kernel_rfl))
 f321:=Tryz.func275.trans (congrArg some (by kernel_rfl))
 f322:=Tryz.func276.trans (congrArg some (by kernel_rfl))
 f337:=Tryz.func273.trans (congrArg some (by kernel_rfl))
 f338:=Tryz.func274.trans (congrArg some (by kernel_rfl))
 t0:=Tryz.underlying0
 a0:=Tryz.isAgg0
 z0:=Tryz.sizeOf0
 v0:=Tryz.zeroValue0
 t2:=Tryz.underlying2
 a2:=Tryz.isAgg2
 z2:=Tryz.sizeOf2
 v2:=Tryz.zeroValue2
 t3:=Tryz.underlying3
 a3:=Tryz.isAgg3
 z3:=Tryz.sizeOf3
 v3:=Tryz.zeroValue3
 t4:=Tryz.underlying4
 a4:=Tryz.isAgg4
 z4:=Tryz.sizeOf4
 v4:=Tryz.zeroValue4
 t5:=Tryz.underlying5
 a5:=Tryz.isAgg5
 z5:=Tryz.sizeOf5
 v5:=Tryz.zeroValue5
 t9:=Tryz.underlying9
 a9:=Tryz.isAgg9
 z9:=Tryz.sizeOf9
 v9:=Tryz.zeroValue9
 t20:=Tryz.underlying20
 a20:=Tryz.isAgg20
 z20:=Tryz.sizeOf20
 v20:=Tryz.zeroValue20
 t21:=Tryz.underlying21
 a21:=Tryz.isAgg21
 z21:=Tryz.sizeOf21
 v21:=Tryz.zeroValue21
 t37:=Tryz.underlying127
 a37:=Tryz.isAgg127
 z37:=Tryz.sizeOf127
 v37:=Tryz.zeroValue127
 t46:=Tryz.underlying229
 a46:=Tryz.isAgg229
 z46:=Tryz.sizeOf229
 v46:=Tryz.zeroValue229
 t51:=Tryz.underlying252
 a51:=Tryz.isAgg252
 z51:=Tryz.sizeOf252
 v51:=Tryz.zeroValue252
 t53:=Tryz.underlying254
 a53:=Tryz.isAgg254
 z53:=Tryz.sizeOf254
 v53:=Tryz.zeroValue254
 t75:=Tryz.underlying209
 a75:=Tryz.isAgg209
 z75:=Tryz.sizeOf209
 v75:=Tryz.zeroValue209
 t76:=Tryz.underlying210
 a76:=Tryz.isAgg210
 z76:=Tryz.sizeOf210
 v76:=Tryz.zeroValue210
 t85:=Tryz.underlying278
 a85:=Tryz.isAgg278
 z85:=Tryz.sizeOf278
 v85:=Tryz.zeroValue278
 t127:=Tryz.underlying231
 a127:=Tryz.isAgg231
 z127:=Tryz.sizeOf231
 v127:=Tryz.zeroValue231
 t143:=Tryz.underlying298
 a143:=Tryz.isAgg298
 z143:=Tryz.sizeOf298
 v143:=Tryz.zeroValue298
 t145:=Tryz.underlying300
 a145:=Tryz.isAgg300
 z145:=Tryz.sizeOf300
 v145:=Tryz.zeroValue300
 t167:=Tryz.underlying277
 a167:=Tryz.isAgg277
 z167:=Tryz.sizeOf277
 v167:=Tryz.zeroValue277
 t168:=Tryz.underlying280
 a168:=Tryz.isAgg280
 z168:=Tryz.sizeOf280
 v168:=Tryz.zeroValue280
 t171:=Tryz.underlying268
 a171:=Tryz.isAgg268
 z171:=Tryz.sizeOf268
 v171:=Tryz.zeroValue268
 t173:=Tryz.underlying270
 a173:=Tryz.isAgg270
 z173:=Tryz.sizeOf270
 v173:=Tryz.zeroValue270
 t175:=Tryz.underlying292
 a175:=Tryz.isAgg292
 z175:=Tryz.sizeOf292
 v175:=Tryz.zeroValue292
 t210:=Tryz.underlying295
 a210:=Tryz.isAgg295
 z210:=Tryz.sizeOf295
 v210:=Tryz.zeroValue295
 t212:=Tryz.underlying284
 a212:=Tryz.isAgg284
 z212:=Tryz.sizeOf284
 v212:=Tryz.zeroValue284
 t213:=Tryz.underlying285
 a213:=Tryz.isAgg285
 z213:=Tryz.sizeOf285
 t232:=Tryz.underlying301
 a232:=Tryz.isAgg301
 z232:=Tryz.sizeOf301
 v232:=Tryz.zeroValue301
 t233:=Tryz.underlying302
 a233:=Tryz.isAgg302
 z233:=Tryz.sizeOf302
 v233:=Tryz.zeroValue302
 g15:=by kernel_rfl
 g16:=by kernel_rfl
 g17:=by kernel_rfl
 g18:=by kernel_rfl
 g19:=by kernel_rfl
 t80:=Tryz.underlying212
 a80:=Tryz.isAgg212
 z80:=Tryz.sizeOf212
 v80:=Tryz.zeroValue212
 i0:=by kernel_rfl
 i2:=by kernel_rfl
 i3:=by kernel_rfl
 i4:=by kernel_rfl
 i5:=by kernel_rfl
 i9:=by kernel_rfl
 i20:=by kernel_rfl
 i21:=by kernel_rfl
 i37:=by kernel_rfl
 i46:=by kernel_rfl
 i51:=by kernel_rfl
 i53:=by kernel_rfl
 i75:=by kernel_rfl
 i76:=by kernel_rfl
 i80:=by kernel_rfl
 i85:=by kernel_rfl
 i127:=by kernel_rfl
 i143:=by kernel_rfl
 i145:=by kernel_rfl
 i167:=by kernel_rfl
 i168:=by kernel_rfl
 i171:=by kernel_rfl
 i173:=by kernel_rfl
 i175:=by kernel_rfl
 i210:=by kernel_rfl
 i212:=by kernel_rfl
 i232:=by kernel_rfl
 i233:=by kernel_rfl
 m15:=by kernel_rfl
 m16:=by kernel_rfl
 m17:=by kernel_rfl
 m18:=by kernel_rfl
 m19:=by kernel_rfl
 c0:=by kernel_rfl
 c2:=by kernel_rfl
 c3:=by kernel_rfl
 c4:=by kernel_rfl
 c5:=by kernel_rfl
 c9:=by kernel_rfl
 c20:=by kernel_rfl
 c21:=by kernel_rfl
 c37:=by kernel_rfl
 c46:=by kernel_rfl
 c51:=by kernel_rfl
 c53:=by kernel_rfl
 c75:=by kernel_rfl
 c76:=by kernel_rfl
 c80:=by kernel_rfl
 c85:=by kernel_rfl
 c127:=by kernel_rfl
 c143:=by kernel_rfl
 c145:=by kernel_rfl
 c167:=by kernel_rfl
 c168:=by kernel_rfl
 c171:=by kernel_rfl
 c173:=by kernel_rfl
 c175:=by kernel_rfl
 c210:=by kernel_rfl
 c212:=by kernel_rfl
 c213:=by kernel_rfl
 c232:=by kernel_rfl
 c233:=by kernel_rfl}
open Go.RowKit in
/-- strconv.Atoi, AT EVERY STRING THAT SPELLS AN int ('Lib.atoiAll .. = .ok v'; of whatever length: leading zeros count): v, AND NO ERROR. The world: as it was, or with the one new row that '[]byte(..)' lays. (LAID: no walk: one application.) -/
theorem strconv_Atoi_ok(s:ByteArray)(hmax:s.size≤9223372036854775806)(v:Int)(h:Lib.atoiAll s.data.toList=.ok v)(w:World) :
  Calls Tryz.prog 233 #[.string s] w fun e w'=>e=.returned (.tuple #[.int .i64 v,.nilIface])∧(w'=w∨∃t,w'=Lib.bytesWorld w 5 t):=Any.strconv_Atoi_ok dO s hmax v h w
open Go.RowKit in
/-- strconv.Atoi, AT EVERY STRING THAT IS NO DECIMAL NUMERAL ('.syntax'): 0, AND AN ERROR THAT IS NOT nil: a *NumError in a new block N: {Func: "Atoi", Num: s's bytes, Err: what the variable ErrSyntax holds}. Of what was there nothing has turned. (LAID: no walk: one application.) -/
theorem strconv_Atoi_syntax(s:ByteArray)(hlim:s.size≤281474976710656)(h:Lib.atoiAll s.data.toList=Lib.NumEnd.syntax)(ev:Value)(w:World)(hv:w.cell? ⟨4,0,none⟩=some ev)(hev:ev=.nilIface∨∃te pe,ev=.iface te pe) :
  Calls Tryz.prog 233 #[.string s] w fun e w'=>∃N,e=.returned (.tuple #[.int .i64 (0),.iface 280 (.pointer (some ⟨N,0,none⟩))])∧w.heap.size≤N∧w'.heap[N]? = some (.cells #[.string ⟨#[65,116,111,105]⟩,.string s,ev] 295 (0,0))∧Below w.heap.size w w':=Any.strconv_Atoi_syntax dO s hlim h ev w hv hev
open Go.RowKit in
/-- strconv.Atoi, AT EVERY NUMERAL THAT NO int HOLDS ('.range'): THE GREATEST OR THE LEAST int, BY THE SIGN ('Lib.atoiSat'), AND AN ERROR THAT IS NOT nil: a *NumError in a new block N: {Func: "Atoi", Num: s's bytes, Err: what the variable ErrRange holds}. Of what was there nothing has turned. (LAID: no walk: one application.) -/
theorem strconv_Atoi_range(s:ByteArray)(hlim:s.size≤281474976710656)(h:Lib.atoiAll s.data.toList=.range)(ev:Value)(w:World)(hv:w.cell? ⟨5,0,none⟩=some ev)(hev:ev=.nilIface∨∃te pe,ev=.iface te pe) :
  Calls Tryz.prog 233 #[.string s] w fun e w'=>∃N,e=.returned (.tuple #[.int .i64 (Lib.atoiSat s.data.toList),.iface 280 (.pointer (some ⟨N,0,none⟩))])∧w.heap.size≤N∧w'.heap[N]? = some (.cells #[.string ⟨#[65,116,111,105]⟩,.string s,ev] 295 (0,0))∧Below w.heap.size w w':=Any.strconv_Atoi_range dO s hlim h ev w hv hev
set_option maxRecDepth 100000 in
set_option maxHeartbeats 2000000 in
theorem FQ{w:World}(AI:Int)(mK:Int)(pJ:Int):yE Tryz.prog 96 #[.int .i64 (AI),.int .i64 (mK),.int .i64 (pJ)] w fun v w'=>v=.bool ((AC AI mK pJ))∧Ex w w':=by
 refine SA Tryz.func96 rfl Tryz.ntmps96 rfl (cR (sA rfl (dn (cR (sM rfl ?_)))))
 refine sM rfl (sd rfl (fI rfl rfl rfl (sM rfl (FG (q:=mK≤AI) (fun hb1 hb1p=>?_) (fun hb1 hb1p=>?_)))))
 ·refine sy rfl rfl hb1 (yM rfl rfl (sy rfl rfl hb1 (yM rfl rfl (sy rfl rfl hb1 (zI rfl rfl rfl (sd rfl (EA rfl rfl hb1 rfl (sA rfl (dn (jA (rr rfl (.cons rfl .nil) ?_)))))))))))
  rw[show(AC AI mK pJ)=(decide (AI≤pJ))by simp only[AC,hb1,cL]]
  exact⟨rfl,(pA w)⟩
 ·refine sz rfl rfl hb1 (sz rfl rfl hb1 (sz rfl rfl hb1 (sd rfl (AA rfl rfl hb1 rfl (sA rfl (dn (jA (rr rfl (.cons rfl .nil) ?_))))))))
  rw[show(AC AI mK pJ)=(false)by simp only[AC,hb1,cL]]
  exact⟨rfl,(pA w)⟩
theorem JN(w:World)(b:TypeId)(t:ByteArray):Ex w (Lib.bytesWorld w b t):=Lib.bytesWorld_below w b t
theorem zU(w:World)(k:Nat)(os:Array Obj):Ex w (grow (w.drewN k) os):=⟨rfl,rfl,rfl,by simp[grow],fun j hj=>heap_grow_old _ _ hj⟩
theorem ZS{w:World}(s:QA)(ho:sE s)(hgb:GT 4 5 1 w):Calls Tryz.prog 233 #[.string (bs s)] w fun e w'=>Ex w w'∧((∃n,Lib.atoiAll s=.ok n∧e=.returned (.tuple #[.int .i64 n,.nilIface]))∨((∀n,Lib.atoiAll s≠.ok n)∧∃n t p,e=.returned (.tuple #[.int .i64 n,.iface t p]))):=by
 have hs:(bs s).data.toList=s:=rfl
 have hl:(bs s).size≤1073741824:=ho
 obtain⟨⟨⟨e1,h1,k1⟩,e2,h2,k2⟩,-⟩:=hgb
 rcases h:Lib.atoiAll s with v | _ | _
 ·refine Calls.mono (strconv_Atoi_ok (bs s) oM v (by rw[hs];exact h) w) ?_
  rintro e w' ⟨he,hw⟩
  refine⟨?_,.inl ⟨v,rfl,he⟩⟩
  rcases hw with rfl | ⟨t,rfl⟩
  ·exact pA _
  ·exact JN _ _ _
 ·refine Calls.mono (strconv_Atoi_syntax (bs s) oM (by rw[hs];exact h) e1 w h1 k1) ?_
  rintro e w' ⟨N,he,_,_,hB⟩
  exact⟨hB,.inr ⟨fun n hn=>(by cases hn),_,_,_,he⟩⟩
 ·refine Calls.mono (strconv_Atoi_range (bs s) oM (by rw[hs];exact h) e2 w h2 k2) ?_
  rintro e w' ⟨N,he,_,_,hB⟩
  exact⟨hB,.inr ⟨fun n hn=>(by cases hn),_,_,_,he⟩⟩
theorem aT{w:World}(n:Int)(h0:-9223372036854775808≤n)(h1:n≤9223372036854775807)(hgb:GT 4 5 1 w):Calls Tryz.prog 180 #[.int .i64 n] w fun e w'=>e=.returned (.string (bs (Lib.itoa n)))∧Ex w w':=by
  obtain⟨-,T,z,ht⟩:=hgb
  have hg:Tryz.prog.globalNamed "internal/strconv.uint64pow10" = some 1:=by kernel_rfl
  have htab:Lib.TabIs Tryz.prog w "internal/strconv.uint64pow10" .u64 Lib.pow10Tab:=by
    unfold Lib.TabIs World.var?
    rw[hg]
    simp only[Option.bind_some,ht]
    rfl
  refine Calls.mono (strconv_Itoa n h0 h1 w htab) ?_
  rintro e w' ⟨he,k,os,rfl⟩
  exact⟨he,zU _ _ _⟩
theorem MU{s:QA}{n:Int}(h:Lib.atoiAll s=.ok n):jF s=bif AC n (-999999) 999999&&(Lib.itoa n==s)then(n,true)else(0,false):=by
 unfold jF
 rw[h]
theorem lR{s:QA}(h:∀n,Lib.atoiAll s≠.ok n):jF s=(0,false):=by
 unfold jF
 rcases hh:Lib.atoiAll s with n | _ | _
 ·exact absurd hh (h n)
 ·rfl
 ·rfl
set_option maxRecDepth 100000 in
set_option maxHeartbeats 2000000 in
theorem NT{w:World}(zA:QA)(o1:sE zA)(hgb:GT 4 5 1 w):Calls Tryz.prog 204 #[.string (bs (zA)),.int .i64 (-999999),.int .i64 999999] w fun e w'=>e=.returned (.tuple #[.int .i64 ((jF zA).1),.bool ((jF zA).2)])∧Ex w w':=by
 refine(callsIn_wide (n:=3)).1 ?_
 refine callsIn_of_wp Tryz.func204 rfl trivial ?_ rfl
 simp only[Tryz.ntmps204,List.size_toArray,List.length_cons,List.length_nil,Nat.reduceAdd,Nat.reduceSub,Array.replicate_succ,Array.replicate_zero,List.push_toArray,List.append_toArray,List.nil_append,List.cons_append]
 have hA:=ZS zA o1 hgb
 rcases hat:Lib.atoiAll zA with n | _ | _
 ·have hA:Calls Tryz.prog 233 #[.string (bs zA)] w fun e w'=>e=.returned (.tuple #[.int .i64 n,.nilIface])∧Ex w w':=hA.mono fun e w' ⟨hE,h⟩=>by
   rcases h with⟨m,h1,h2⟩ | ⟨h1,_⟩
   ·rw[hat]at h1;cases h1;exact⟨h2,hE⟩
   ·exact absurd hat (h1 n)
  have hW:∀w',Calls Tryz.prog 96 #[.int .i64 n,.int .i64 (-999999),.int .i64 999999] w' fun e w2=>e=.returned (.bool (AC n (-999999) 999999))∧Ex w' w2:=fun w'=>Calls.mono (FQ n (-999999) 999999) fun e w2 ⟨v,h1,h2,h3⟩=>⟨by rw[h1,h2],h3⟩
  rw[MU hat]
  cases hw:AC n (-999999) 999999
  ·simp only[hw]at hW
   gi_wp2_with (first | (refine⟨trivial,?_⟩;gi_at_call 233;refine(callsIn_wide.2 hA).mono ?_;rintro e w1 ⟨rfl,hE1⟩) | (refine⟨trivial,?_⟩;gi_at_call 96;refine(callsIn_wide.2 (hW _)).mono ?_;rintro e w2 ⟨rfl,hE2⟩))
   refine⟨trivial,?_⟩
   gi_wp2
   go_ret2
   exact⟨rfl,hE1.trans hE2⟩
  ·have hb:=kK hw
   have hI:∀w',Ex w w'→Calls Tryz.prog 180 #[.int .i64 n] w' fun e w2=>e=.returned (.string (bs (Lib.itoa n)))∧Ex w' w2:=fun w' hE=>aT n oM oM (hgb.ex hE)
   simp only[hw]at hW
   cases hc:Lib.itoa n==zA
   ·have hcmp:((bs (Lib.itoa n)).toList==(bs zA).toList)=false:=by rw[MI,MI];exact hc
    gi_wp2_with (first | (refine⟨trivial,?_⟩;gi_at_call 233;refine(callsIn_wide.2 hA).mono ?_;rintro e w1 ⟨rfl,hE1⟩) | (refine⟨trivial,?_⟩;gi_at_call 96;refine(callsIn_wide.2 (hW _)).mono ?_;rintro e w2 ⟨rfl,hE2⟩) | (refine⟨trivial,?_⟩;gi_at_call 180;refine(callsIn_wide.2 (hI _ (aA hE1 hE2))).mono ?_;rintro e w3 ⟨rfl,hE3⟩))
    go_ret2
    exact⟨rfl,hE1.trans (hE2.trans hE3)⟩
   ·have he:Lib.itoa n=zA:=by simpa using hc
    rw[he]at hI
    have hcmp:((bs zA).toList==(bs zA).toList)=true:=beq_self_eq_true _
    gi_wp2_with (first | (refine⟨trivial,?_⟩;gi_at_call 233;refine(callsIn_wide.2 hA).mono ?_;rintro e w1 ⟨rfl,hE1⟩) | (refine⟨trivial,?_⟩;gi_at_call 96;refine(callsIn_wide.2 (hW _)).mono ?_;rintro e w2 ⟨rfl,hE2⟩) | (refine⟨trivial,?_⟩;gi_at_call 180;refine(callsIn_wide.2 (hI _ (aA hE1 hE2))).mono ?_;rintro e w3 ⟨rfl,hE3⟩))
    go_ret2
    exact⟨rfl,hE1.trans (hE2.trans hE3)⟩
 ·have hA:Calls Tryz.prog 233 #[.string (bs zA)] w fun e w'=>(∃n t p,e=.returned (.tuple #[.int .i64 n,.iface t p]))∧Ex w w':=hA.mono fun e w' ⟨hE,h⟩=>by
   rcases h with⟨m,h1,h2⟩ | ⟨_,h2⟩
   ·rw[hat]at h1;cases h1
   ·exact⟨h2,hE⟩
  rw[lR fun n=>by rw[hat];simp]
  gi_wp2_with (refine⟨trivial,?_⟩;gi_at_call 233;refine(callsIn_wide.2 hA).mono ?_;rintro e w1 ⟨⟨n,t,p,rfl⟩,hE1⟩)
  refine⟨trivial,?_⟩
  gi_wp2
  refine⟨trivial,?_⟩
  gi_wp2
  go_ret2
  exact⟨rfl,hE1⟩
 ·have hA:Calls Tryz.prog 233 #[.string (bs zA)] w fun e w'=>(∃n t p,e=.returned (.tuple #[.int .i64 n,.iface t p]))∧Ex w w':=hA.mono fun e w' ⟨hE,h⟩=>by
   rcases h with⟨m,h1,h2⟩ | ⟨_,h2⟩
   ·rw[hat]at h1;cases h1
   ·exact⟨h2,hE⟩
  rw[lR fun n=>by rw[hat];simp]
  gi_wp2_with (refine⟨trivial,?_⟩;gi_at_call 233;refine(callsIn_wide.2 hA).mono ?_;rintro e w1 ⟨⟨n,t,p,rfl⟩,hE1⟩)
  refine⟨trivial,?_⟩
  gi_wp2
  refine⟨trivial,?_⟩
  gi_wp2
  go_ret2
  exact⟨rfl,hE1⟩
set_option maxRecDepth 100000 in
set_option maxHeartbeats 2000000 in
theorem CP{w:World}(zA:QA)(o1:sE zA)(hgb:GT 4 5 1 w):yE Tryz.prog 179 #[.string (bs (zA))] w fun v w'=>v=.tuple #[.int .i64 ((jF zA).1),.bool ((jF zA).2)]∧Ex w w':=by
 have hR:=NT zA o1 hgb
 generalize jF zA=r at hR ⊢
 refine(callsIn_wide (n:=3)).1 ?_
 refine callsIn_of_wp Tryz.func179 rfl trivial ?_ rfl
 simp only[Tryz.ntmps179,List.size_toArray,List.length_cons,List.length_nil,Nat.reduceAdd,Nat.reduceSub,Array.replicate_succ,Array.replicate_zero,List.push_toArray,List.append_toArray,List.nil_append,List.cons_append]
 gi_wp2_with (refine⟨trivial,?_⟩;gi_at_call 204;refine(callsIn_wide.2 hR).mono ?_;rintro e w1 ⟨rfl,hE1⟩)
 go_ret2
 exact⟨_,rfl,rfl,hE1⟩
end Go.Proofs.YtoimdjojffkefaaGreatDoor
