/- Read Table: what impl.readInt returns, which calls strconv.Atoi. -/
import Derived.Shelf.Strconv.AtoiAll
import Derived.Shelf.LaysC
import Derived.Shelf.Abstract
import Derived.Shelf.RegionOpen
import Derived.WalkKit
import Derived.OwnWalkIn
import Derived.TacticsInMore
import Derived.LoopNIn
import Derived.LoopIn
import Derived.Test.YtdknedcbonflgaaDoorProg
import Derived.Test.YtdknedcbonflgaaDoorReadTableL
import Derived.Test.YtdknedcbonflgaaDoorReadTableF
import Derived.Test.YtdknedcbonflgaaDoorReadTableQ
import Derived.Test.YtdknedcbonflgaaDoorReadTableY
import Derived.Test.YtdknedcbonflgaaDoorReadTableS
set_option linter.unusedVariables false
set_option linter.unusedSimpArgs false
namespace Go.Proofs.YtdknedcbonflgaaDoor
open Go.RowKit Go.X
open Go.Shelf
attribute [local go_sem] Oper.semAt_some
def VH:Go.Shelf.Ren:=⟨fun | 172=>33 | 244=>46 | 245=>47 | 247=>59 | 279=>60 | 280=>61 | 281=>62 | 282=>63 | 287=>70 | 316=>71 | 171=>35 | 205=>72 | 321=>79 | 322=>80 | 243=>48 | 246=>64 | 283=>73 | 284=>74 | 285=>75 | 286=>76 | 129=>82 | 317=>81 | 318=>83 | 319=>84 | 320=>85 | 337=>86 | 338=>87 | n=>n,fun | 9=>9 | 3=>3 | 75=>55 | 76=>56 | 4=>4 | 5=>5 | 167=>76 | 37=>61 | 0=>0 | 85=>77 | 2=>2 | 168=>79 | 53=>87 | 175=>88 | 46=>72 | 210=>92 | 127=>83 | 145=>109 | 143=>107 | 21=>21 | 171=>94 | 173=>97 | 212=>111 | 51=>84 | 20=>20 | 213=>112 | 232=>115 | 233=>116 | 80=>69 | n=>n,fun | 15=>1 | 16=>2 | 17=>5 | 18=>6 | 19=>7 | n=>n⟩
theorem UG:Go.Proofs.LaysC.n172 Tryd.prog VH:={
 mixed:=by kernel_rfl
 f129:=Tryd.func82.trans (congrArg some (by kernel_rfl))
 f171:=Tryd.func35.trans (congrArg some (by kernel_rfl))
 f172:=Tryd.func33.trans (congrArg some (by kernel_rfl))
 f205:=Tryd.func72.trans (congrArg some (by kernel_rfl))
 f243:=Tryd.func48.trans (congrArg some (by kernel_rfl))
 f244:=Tryd.func46.trans (congrArg some (by kernel_rfl))
 f245:=Tryd.func47.trans (congrArg some (by kernel_rfl))
 f246:=Tryd.func64.trans (congrArg some (by kernel_rfl))
 f247:=Tryd.func59.trans (congrArg some (by kernel_rfl))
 f279:=Tryd.func60.trans (congrArg some (by kernel_rfl))
 f280:=Tryd.func61.trans (congrArg some (by kernel_rfl))
 f281:=Tryd.func62.trans (congrArg some (by kernel_rfl))
 f282:=Tryd.func63.trans (congrArg some (by kernel_rfl))
 f283:=Tryd.func73.trans (congrArg some (by kernel_rfl))
 f284:=Tryd.func74.trans (congrArg some (by kernel_rfl))
 f285:=Tryd.func75.trans (congrArg some (by kernel_rfl))
 f286:=Tryd.func76.trans (congrArg some (by kernel_rfl))
 f287:=Tryd.func70.trans (congrArg some (by kernel_rfl))
 f316:=Tryd.func71.trans (congrArg some (by kernel_rfl))
 f317:=Tryd.func81.trans (congrArg some (by kernel_rfl))
 f318:=Tryd.func83.trans (congrArg some (by kernel_rfl))
 f319:=Tryd.func84.trans (congrArg some (by kernel_rfl))
 f320:=Tryd.func85.trans (congrArg some (by kernel_rfl))
 f321:=Tryd.func79.trans (congrArg some (by kernel_rfl))
 f322:=Tryd.func80.trans (congrArg some (by kernel_rfl))
 f337:=Tryd.func86.trans (congrArg some (by kernel_rfl))
 f338:=Tryd.func87.trans (congrArg some (by kernel_rfl))
 t0:=Tryd.underlying0
 a0:=Tryd.isAgg0
 z0:=Tryd.sizeOf0
 v0:=Tryd.zeroValue0
 t2:=Tryd.underlying2
 a2:=Tryd.isAgg2
 z2:=Tryd.sizeOf2
 v2:=Tryd.zeroValue2
 t3:=Tryd.underlying3
 a3:=Tryd.isAgg3
 z3:=Tryd.sizeOf3
 v3:=Tryd.zeroValue3
 t4:=Tryd.underlying4
 a4:=Tryd.isAgg4
 z4:=Tryd.sizeOf4
 v4:=Tryd.zeroValue4
 t5:=Tryd.underlying5
 a5:=Tryd.isAgg5
 z5:=Tryd.sizeOf5
 v5:=Tryd.zeroValue5
 t9:=Tryd.underlying9
 a9:=Tryd.isAgg9
 z9:=Tryd.sizeOf9
 v9:=Tryd.zeroValue9
 t20:=Tryd.underlying20
 a20:=Tryd.isAgg20
 z20:=Tryd.sizeOf20
 v20:=Tryd.zeroValue20
 t21:=Tryd.underlying21
 a21:=Tryd.isAgg21
 z21:=Tryd.sizeOf21
 v21:=Tryd.zeroValue21
 t37:=Tryd.underlying61
 a37:=Tryd.isAgg61
 z37:=Tryd.sizeOf61
 v37:=Tryd.zeroValue61
 t46:=Tryd.underlying72
 a46:=Tryd.isAgg72
 z46:=Tryd.sizeOf72
 v46:=Tryd.zeroValue72
 t51:=Tryd.underlying84
 a51:=Tryd.isAgg84
 z51:=Tryd.sizeOf84
 v51:=Tryd.zeroValue84
 t53:=Tryd.underlying87
 a53:=Tryd.isAgg87
 z53:=Tryd.sizeOf87
 v53:=Tryd.zeroValue87
 t75:=Tryd.underlying55
 a75:=Tryd.isAgg55
 z75:=Tryd.sizeOf55
 v75:=Tryd.zeroValue55
 t76:=Tryd.underlying56
 a76:=Tryd.isAgg56
 z76:=Tryd.sizeOf56
 v76:=Tryd.zeroValue56
 t85:=Tryd.underlying77
 a85:=Tryd.isAgg77
 z85:=Tryd.sizeOf77
 v85:=Tryd.zeroValue77
 t127:=Tryd.underlying83
 a127:=Tryd.isAgg83
 z127:=Tryd.sizeOf83
 v127:=Tryd.zeroValue83
 t143:=Tryd.underlying107
 a143:=Tryd.isAgg107
 z143:=Tryd.sizeOf107
 v143:=Tryd.zeroValue107
 t145:=Tryd.underlying109
 a145:=Tryd.isAgg109
 z145:=Tryd.sizeOf109
 v145:=Tryd.zeroValue109
 t167:=Tryd.underlying76
 a167:=Tryd.isAgg76
 z167:=Tryd.sizeOf76
 v167:=Tryd.zeroValue76
 t168:=Tryd.underlying79
 a168:=Tryd.isAgg79
 z168:=Tryd.sizeOf79
 v168:=Tryd.zeroValue79
 t171:=Tryd.underlying94
 a171:=Tryd.isAgg94
 z171:=Tryd.sizeOf94
 v171:=Tryd.zeroValue94
 t173:=Tryd.underlying97
 a173:=Tryd.isAgg97
 z173:=Tryd.sizeOf97
 v173:=Tryd.zeroValue97
 t175:=Tryd.underlying88
 a175:=Tryd.isAgg88
 z175:=Tryd.sizeOf88
 v175:=Tryd.zeroValue88
 t210:=Tryd.underlying92
 a210:=Tryd.isAgg92
 z210:=Tryd.sizeOf92
 v210:=Tryd.zeroValue92
 t212:=Tryd.underlying111
 a212:=Tryd.isAgg111
 z212:=Tryd.sizeOf111
 v212:=Tryd.zeroValue111
 t213:=Tryd.underlying112
 a213:=Tryd.isAgg112
 z213:=Tryd.sizeOf112
 t232:=Tryd.underlying115
 a232:=Tryd.isAgg115
 z232:=Tryd.sizeOf115
 v232:=Tryd.zeroValue115
 t233:=Tryd.underlying116
 a233:=Tryd.isAgg116
 z233:=Tryd.sizeOf116
 v233:=Tryd.zeroValue116
 g15:=by kernel_rfl
 g16:=by kernel_rfl
 g17:=by kernel_rfl
 g18:=by kernel_rfl
 g19:=by kernel_rfl
 t80:=Tryd.underlying69
 a80:=Tryd.isAgg69
 z80:=Tryd.sizeOf69
 v80:=Tryd.zeroValue69
 i0:=by kernel_rfl
 i2:=by kernel_rfl
 i3:=by kernel_rfl
 i4:=by kernel_rfl
 i5:=by kernel_rfl
 i9:=by kernel_rfl
 i20:=by kernel_rfl
 i21:=by kernel_rfl
 i37:=by kernel_rfl
 i46:=by kernel_rfl
 i51:=by kernel_rfl
 i53:=by kernel_rfl
 i75:=by kernel_rfl
 i76:=by kernel_rfl
 i80:=by kernel_rfl
 i85:=by kernel_rfl
 i127:=by kernel_rfl
 i143:=by kernel_rfl
 i145:=by kernel_rfl
 i167:=by kernel_rfl
 i168:=by kernel_rfl
 i171:=by kernel_rfl
 i173:=by kernel_rfl
 i175:=by kernel_rfl
 i210:=by kernel_rfl
 i212:=by kernel_rfl
 i232:=by kernel_rfl
 i233:=by kernel_rfl
 m15:=by kernel_rfl
 m16:=by kernel_rfl
 m17:=by kernel_rfl
 m18:=by kernel_rfl
 m19:=by kernel_rfl
 c0:=by kernel_rfl
 c2:=by kernel_rfl
 c3:=by kernel_rfl
 c4:=by kernel_rfl
 c5:=by kernel_rfl
 c9:=by kernel_rfl
 c20:=by kernel_rfl
 c21:=by kernel_rfl
 c37:=by kernel_rfl
 c46:=by kernel_rfl
 c51:=by kernel_rfl
 c53:=by kernel_rfl
 c75:=by kernel_rfl
 c76:=by kernel_rfl
 c80:=by kernel_rfl
 c85:=by kernel_rfl
 c127:=by kernel_rfl
 c143:=by kernel_rfl
 c145:=by kernel_rfl
 c167:=by kernel_rfl
 c168:=by kernel_rfl
 c171:=by kernel_rfl
 c173:=by kernel_rfl
 c175:=by kernel_rfl
 c210:=by kernel_rfl
 c212:=by kernel_rfl
 c213:=by kernel_rfl
 c232:=by kernel_rfl
 c233:=by kernel_rfl}
open Go.RowKit in
/-- strconv.Atoi, AT EVERY STRING THAT SPELLS AN int ('Lib.atoiAll .. = .ok v'; of whatever length: leading zeros count): v, AND NO ERROR. The world: as it was, or with the one new row that '[]byte(..)' lays. (LAID: no walk: one application.) -/
theorem strconv_Atoi_ok(s:ByteArray)(hmax:s.size≤9223372036854775806)(v:Int)(h:Lib.atoiAll s.data.toList=.ok v)(w:World) :
  Calls Tryd.prog 33 #[.string s] w fun e w'=>e=.returned (.tuple #[.int .i64 v,.nilIface])∧(w'=w∨∃t,w'=Lib.bytesWorld w 5 t):=Any.strconv_Atoi_ok UG s hmax v h w
open Go.RowKit in
/-- strconv.Atoi, AT EVERY STRING THAT IS NO DECIMAL NUMERAL ('.syntax'): 0, AND AN ERROR THAT IS NOT nil: a *NumError in a new block N: {Func: "Atoi", Num: s's bytes, Err: what the variable ErrSyntax holds}. Of what was there nothing has turned. (LAID: no walk: one application.) -/
theorem strconv_Atoi_syntax(s:ByteArray)(hlim:s.size≤281474976710656)(h:Lib.atoiAll s.data.toList=Lib.NumEnd.syntax)(ev:Value)(w:World)(hv:w.cell? ⟨1,0,none⟩=some ev)(hev:ev=.nilIface∨∃te pe,ev=.iface te pe) :
  Calls Tryd.prog 33 #[.string s] w fun e w'=>∃N,e=.returned (.tuple #[.int .i64 (0),.iface 79 (.pointer (some ⟨N,0,none⟩))])∧w.heap.size≤N∧w'.heap[N]? = some (.cells #[.string ⟨#[65,116,111,105]⟩,.string s,ev] 92 (0,0))∧Below w.heap.size w w':=Any.strconv_Atoi_syntax UG s hlim h ev w hv hev
open Go.RowKit in
/-- strconv.Atoi, AT EVERY NUMERAL THAT NO int HOLDS ('.range'): THE GREATEST OR THE LEAST int, BY THE SIGN ('Lib.atoiSat'), AND AN ERROR THAT IS NOT nil: a *NumError in a new block N: {Func: "Atoi", Num: s's bytes, Err: what the variable ErrRange holds}. Of what was there nothing has turned. (LAID: no walk: one application.) -/
theorem strconv_Atoi_range(s:ByteArray)(hlim:s.size≤281474976710656)(h:Lib.atoiAll s.data.toList=.range)(ev:Value)(w:World)(hv:w.cell? ⟨2,0,none⟩=some ev)(hev:ev=.nilIface∨∃te pe,ev=.iface te pe) :
  Calls Tryd.prog 33 #[.string s] w fun e w'=>∃N,e=.returned (.tuple #[.int .i64 (Lib.atoiSat s.data.toList),.iface 79 (.pointer (some ⟨N,0,none⟩))])∧w.heap.size≤N∧w'.heap[N]? = some (.cells #[.string ⟨#[65,116,111,105]⟩,.string s,ev] 92 (0,0))∧Below w.heap.size w w':=Any.strconv_Atoi_range UG s hlim h ev w hv hev
set_option maxRecDepth 100000 in
set_option maxHeartbeats 2000000 in
theorem rI{w:World}(JE:Int)(wD:Int)(UC:Int):OD Tryd.prog 34 #[.int .i64 (JE),.int .i64 (wD),.int .i64 (UC)] w fun v w'=>v=.bool ((fB JE wD UC))∧Ex w w':=by
 refine mB Tryd.func34 rfl Tryd.ntmps34 rfl (cR (sA rfl (dn (cR (sM rfl ?_)))))
 refine sM rfl (sd rfl (VF rfl rfl rfl (sM rfl (ZE (q:=wD≤JE) (fun hb1 hb1p=>?_) (fun hb1 hb1p=>?_)))))
 ·refine sy rfl rfl hb1 (yM rfl rfl (sy rfl rfl hb1 (yM rfl rfl (sy rfl rfl hb1 (eH rfl rfl rfl (sd rfl (VA rfl rfl hb1 rfl (sA rfl (dn (vA (rr rfl (.cons rfl .nil) ?_)))))))))))
  rw[show(fB JE wD UC)=(decide (JE≤UC))by simp only[fB,hb1,cL]]
  exact⟨rfl,(HA w)⟩
 ·refine sz rfl rfl hb1 (sz rfl rfl hb1 (sz rfl rfl hb1 (sd rfl (SA rfl rfl hb1 rfl (sA rfl (dn (vA (rr rfl (.cons rfl .nil) ?_))))))))
  rw[show(fB JE wD UC)=(false)by simp only[fB,hb1,cL]]
  exact⟨rfl,(HA w)⟩
theorem kH(w:World)(b:TypeId)(t:ByteArray):Ex w (Lib.bytesWorld w b t):=Lib.bytesWorld_below w b t
theorem fE(s:nA):(bs s).size=s.length:=rfl
theorem ZJ{w:World}(s:nA)(ho:bD s)(hgb:GB 1 2 w):Calls Tryd.prog 33 #[.string (bs s)] w fun e w'=>Ex w w'∧((∃n,Lib.atoiAll s=.ok n∧e=.returned (.tuple #[.int .i64 n,.nilIface]))∨((∀n,Lib.atoiAll s≠.ok n)∧∃n t p,e=.returned (.tuple #[.int .i64 n,.iface t p]))):=by
 have hs:(bs s).data.toList=s:=rfl
 have hl:(bs s).size≤1073741824:=ho
 obtain⟨⟨e1,h1,k1⟩,e2,h2,k2⟩:=hgb
 rcases h:Lib.atoiAll s with v | _ | _
 ·refine Calls.mono (strconv_Atoi_ok (bs s) oM v (by rw[hs];exact h) w) ?_
  rintro e w' ⟨he,hw⟩
  refine⟨?_,.inl ⟨v,rfl,he⟩⟩
  rcases hw with rfl | ⟨t,rfl⟩
  ·exact HA _
  ·exact kH _ _ _
 ·refine Calls.mono (strconv_Atoi_syntax (bs s) oM (by rw[hs];exact h) e1 w h1 k1) ?_
  rintro e w' ⟨N,he,_,_,hB⟩
  exact⟨hB,.inr ⟨fun n hn=>(by cases hn),_,_,_,he⟩⟩
 ·refine Calls.mono (strconv_Atoi_range (bs s) oM (by rw[hs];exact h) e2 w h2 k2) ?_
  rintro e w' ⟨N,he,_,_,hB⟩
  exact⟨hB,.inr ⟨fun n hn=>(by cases hn),_,_,_,he⟩⟩
theorem HF{c:UInt8}(h1:48≤c.toNat)(h2:c.toNat≤57):Lib.atoiAll [c]=.ok ((c.toNat:Int)-48):=by
 have hm:Lib.parseMag [c]=.ok (c.toNat-48):=by
  unfold Lib.parseMag
  rw[if_neg (by simp)]
  simp only[Lib.parseUint10]
  rw[if_pos ⟨h1,h2⟩,if_neg oM,if_neg oM,Nat.zero_mul,Nat.zero_add]
 simp only[Lib.atoiAll]
 rw[if_neg (show ¬(c.toNat=43∨c.toNat=45)by omega),hm]
 simp only
 rw[if_neg oM,if_neg oM,if_neg oM]
 congr 1
 omega
/-- a text that is read as n is the digit of n, or not read -/
theorem bJ{s:nA}{n low high:Int}(h:Lib.atoiAll s=.ok n)(hw:fB n low high=true)(hl:0≤low)(hh:high≤9):VB s low high=bif eB n==s then(n,true)else(0,false):=by
 have hb:=jF hw
 cases hc:eB n==s
 ·rw[cond_false]
  unfold VB
  split
  ·rename_i c
   cases hd:(decide (48≤c.toNat)&&decide (c.toNat≤57)&&fB ((c.toNat:Int)-48) low high)
   ·rfl
   ·simp only[Bool.and_eq_true,decide_eq_true_eq]at hd
    rw[HF hd.1.1 hd.1.2]at h
    cases h
    exfalso
    have:eB ((c.toNat:Int)-48)=[c]:=by
     unfold eB
     rw[show((48:Int)+((c.toNat:Int)-48)).toNat=c.toNat by omega]
     simp
    rw[this]at hc
    simp at hc
  ·rfl
 ·rw[cond_true]
  have hs:eB n=s:=by simpa using hc
  subst hs
  unfold eB VB
  have e:((48+n).toNat.toUInt8).toNat=(48+n).toNat:=by
   rw[Nat.toUInt8,UInt8.toNat_ofNat'];omega
  simp only[e]
  rw[show(((48+n).toNat:Int)-48)=n by omega,hw]
  rw[decide_eq_true oM,decide_eq_true oM]
  rfl
theorem QF{s:nA}{low high:Int}(h:(∀n,Lib.atoiAll s≠.ok n)∨∃n,Lib.atoiAll s=.ok n∧fB n low high=false):VB s low high=(0,false):=by
 unfold VB
 split
 ·rename_i c
  cases hd:(decide (48≤c.toNat)&&decide (c.toNat≤57)&&fB ((c.toNat:Int)-48) low high)
  ·rfl
  ·simp only[Bool.and_eq_true,decide_eq_true_eq]at hd
   have h3:=HF hd.1.1 hd.1.2
   rcases h with h | ⟨n,h,hw⟩
   ·exact absurd h3 (h _)
   ·rw[h3]at h;cases h;rw[hd.2]at hw;cases hw
 ·rfl
set_option maxRecDepth 100000 in
set_option maxHeartbeats 2000000 in
theorem qI{w:World}(WA:nA)(wD:Int)(UC:Int)(o1:bD WA)(pre0:0≤wD)(pre1:UC≤9)(hgb:GB 1 2 w):OD Tryd.prog 15 #[.string (bs (WA)),.int .i64 (wD),.int .i64 (UC)] w fun v w'=>v=.tuple #[.int .i64 ((VB WA wD UC).1),.bool ((VB WA wD UC).2)]∧Ex w w':=by
 refine(callsIn_wide (n:=3)).1 ?_
 refine callsIn_of_wp Tryd.func15 rfl trivial ?_ rfl
 simp only[Tryd.ntmps15,List.size_toArray,List.length_cons,List.length_nil,Nat.reduceAdd,Nat.reduceSub,Array.replicate_succ,Array.replicate_zero,List.push_toArray,List.append_toArray,List.nil_append,List.cons_append]
 have hA:=ZJ WA o1 hgb
 rcases hat:Lib.atoiAll WA with n | _ | _
 ·have hA:Calls Tryd.prog 33 #[.string (bs WA)] w fun e w'=>e=.returned (.tuple #[.int .i64 n,.nilIface])∧Ex w w':=hA.mono fun e w' ⟨hE,h⟩=>by
   rcases h with⟨m,h1,h2⟩ | ⟨h1,_⟩
   ·rw[hat]at h1;cases h1;exact⟨h2,hE⟩
   ·exact absurd hat (h1 n)
  have hW:∀w',Calls Tryd.prog 34 #[.int .i64 n,.int .i64 wD,.int .i64 UC] w' fun e w2=>e=.returned (.bool (fB n wD UC))∧Ex w' w2:=fun w'=>Calls.mono (rI n wD UC) fun e w2 ⟨v,h1,h2,h3⟩=>⟨by rw[h1,h2],h3⟩
  cases hw:fB n wD UC
  ·rw[QF (.inr ⟨n,hat,hw⟩)]
   simp only[hw]at hW
   gi_wp2_with (first | (refine⟨trivial,?_⟩;gi_at_call 33;refine(callsIn_wide.2 hA).mono ?_;rintro e w1 ⟨rfl,hE1⟩) | (refine⟨trivial,?_⟩;gi_at_call 34;refine(callsIn_wide.2 (hW _)).mono ?_;rintro e w2 ⟨rfl,hE2⟩))
   refine⟨trivial,?_⟩
   gi_wp2
   go_ret2
   exact⟨_,rfl,rfl,hE1.trans hE2⟩
  ·have hb:=jF hw
   have hI:∀w',Calls Tryd.prog 35 #[.int .i64 n] w' fun e w2=>e=.returned (.string (bs (eB n)))∧Ex w' w2:=fun w'=>Calls.mono (GE n oM) fun e w2 ⟨v,h1,h2,h3,h4⟩=>⟨by rw[h1,h2],h4⟩
   rw[bJ hat hw pre0 pre1]
   simp only[hw]at hW
   cases hc:eB n==WA
   ·have hcmp:((bs (eB n)).toList==(bs WA).toList)=false:=by rw[kE,kE];exact hc
    gi_wp2_with (first | (refine⟨trivial,?_⟩;gi_at_call 33;refine(callsIn_wide.2 hA).mono ?_;rintro e w1 ⟨rfl,hE1⟩) | (refine⟨trivial,?_⟩;gi_at_call 34;refine(callsIn_wide.2 (hW _)).mono ?_;rintro e w2 ⟨rfl,hE2⟩) | (refine⟨trivial,?_⟩;gi_at_call 35;refine(callsIn_wide.2 (hI _)).mono ?_;rintro e w3 ⟨rfl,hE3⟩))
    go_ret2
    exact⟨_,rfl,rfl,hE1.trans (hE2.trans hE3)⟩
   ·have he:eB n=WA:=by simpa using hc
    rw[he]at hI
    have hcmp:((bs WA).toList==(bs WA).toList)=true:=beq_self_eq_true _
    gi_wp2_with (first | (refine⟨trivial,?_⟩;gi_at_call 33;refine(callsIn_wide.2 hA).mono ?_;rintro e w1 ⟨rfl,hE1⟩) | (refine⟨trivial,?_⟩;gi_at_call 34;refine(callsIn_wide.2 (hW _)).mono ?_;rintro e w2 ⟨rfl,hE2⟩) | (refine⟨trivial,?_⟩;gi_at_call 35;refine(callsIn_wide.2 (hI _)).mono ?_;rintro e w3 ⟨rfl,hE3⟩))
    go_ret2
    exact⟨_,rfl,rfl,hE1.trans (hE2.trans hE3)⟩
 ·have hA:Calls Tryd.prog 33 #[.string (bs WA)] w fun e w'=>(∃n t p,e=.returned (.tuple #[.int .i64 n,.iface t p]))∧Ex w w':=hA.mono fun e w' ⟨hE,h⟩=>by
   rcases h with⟨m,h1,h2⟩ | ⟨_,h2⟩
   ·rw[hat]at h1;cases h1
   ·exact⟨h2,hE⟩
  rw[QF (.inl fun n=>by rw[hat];simp)]
  gi_wp2_with (refine⟨trivial,?_⟩;gi_at_call 33;refine(callsIn_wide.2 hA).mono ?_;rintro e w1 ⟨⟨n,t,p,rfl⟩,hE1⟩)
  refine⟨trivial,?_⟩
  gi_wp2
  refine⟨trivial,?_⟩
  gi_wp2
  go_ret2
  exact⟨_,rfl,rfl,hE1⟩
 ·have hA:Calls Tryd.prog 33 #[.string (bs WA)] w fun e w'=>(∃n t p,e=.returned (.tuple #[.int .i64 n,.iface t p]))∧Ex w w':=hA.mono fun e w' ⟨hE,h⟩=>by
   rcases h with⟨m,h1,h2⟩ | ⟨_,h2⟩
   ·rw[hat]at h1;cases h1
   ·exact⟨h2,hE⟩
  rw[QF (.inl fun n=>by rw[hat];simp)]
  gi_wp2_with (refine⟨trivial,?_⟩;gi_at_call 33;refine(callsIn_wide.2 hA).mono ?_;rintro e w1 ⟨⟨n,t,p,rfl⟩,hE1⟩)
  refine⟨trivial,?_⟩
  gi_wp2
  refine⟨trivial,?_⟩
  gi_wp2
  go_ret2
  exact⟨_,rfl,rfl,hE1⟩
end Go.Proofs.YtdknedcbonflgaaDoor
