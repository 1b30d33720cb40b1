/- Fn Tables: what impl.readInt returns, which calls strconv.Atoi. -/
import Derived.Shelf.Strconv.AtoiAll
import Derived.Shelf.LaysC
import Derived.Shelf.Abstract
import Derived.Shelf.RegionOpen
import Derived.WalkKit
import Derived.OwnWalkIn
import Derived.TacticsInMore
import Derived.LoopNIn
import Derived.LoopIn
import Derived.Test.YtgfkmgjpannelaaGreatDoorProg
import Derived.Test.YtgfkmgjpannelaaGreatDoorFnTablesL
import Derived.Test.YtgfkmgjpannelaaGreatDoorFnTablesF
import Derived.Test.YtgfkmgjpannelaaGreatDoorFnTablesQ
import Derived.Test.YtgfkmgjpannelaaGreatDoorFnTablesY
import Derived.Test.YtgfkmgjpannelaaGreatDoorFnTablesS
set_option linter.unusedVariables false
set_option linter.unusedSimpArgs false
namespace Go.Proofs.YtgfkmgjpannelaaGreatDoor
open Go.RowKit Go.X
open Go.Shelf
attribute [local go_sem] Oper.semAt_some
def laysC172_ren : Go.Shelf.Ren := ⟨fun | 172 => 69 | 244 => 86 | 245 => 87 | 247 => 98 | 279 => 99 | 280 => 100 | 281 => 101 | 282 => 102 | 287 => 112 | 316 => 113 | 171 => 66 | 205 => 114 | 321 => 120 | 322 => 121 | 243 => 81 | 246 => 90 | 283 => 105 | 284 => 106 | 285 => 107 | 286 => 108 | 129 => 116 | 317 => 115 | 318 => 117 | 319 => 118 | 320 => 119 | 337 => 122 | 338 => 123 | n => n, fun | 9 => 9 | 3 => 3 | 75 => 93 | 76 => 94 | 4 => 4 | 5 => 5 | 167 => 116 | 37 => 22 | 0 => 0 | 85 => 117 | 2 => 2 | 168 => 119 | 53 => 76 | 175 => 133 | 46 => 110 | 210 => 137 | 127 => 111 | 145 => 151 | 143 => 149 | 21 => 21 | 171 => 125 | 173 => 128 | 212 => 140 | 51 => 130 | 20 => 20 | 213 => 141 | 232 => 153 | 233 => 154 | 80 => 106 | n => n, fun | 15 => 1 | 16 => 2 | 17 => 3 | 18 => 6 | 19 => 7 | n => n⟩
theorem laysC172 : Go.Proofs.LaysC.n172 Tryz.prog laysC172_ren := {
  mixed := by kernel_rfl
  f129 := Tryz.func116.trans (congrArg some (by kernel_rfl))
  f171 := Tryz.func66.trans (congrArg some (by kernel_rfl))
  f172 := Tryz.func69.trans (congrArg some (by kernel_rfl))
  f205 := Tryz.func114.trans (congrArg some (by kernel_rfl))
  f243 := Tryz.func81.trans (congrArg some (by kernel_rfl))
  f244 := Tryz.func86.trans (congrArg some (by kernel_rfl))
  f245 := Tryz.func87.trans (congrArg some (by kernel_rfl))
  f246 := Tryz.func90.trans (congrArg some (by kernel_rfl))
  f247 := Tryz.func98.trans (congrArg some (by kernel_rfl))
  f279 := Tryz.func99.trans (congrArg some (by kernel_rfl))
  f280 := Tryz.func100.trans (congrArg some (by kernel_rfl))
  f281 := Tryz.func101.trans (congrArg some (by kernel_rfl))
  f282 := Tryz.func102.trans (congrArg some (by kernel_rfl))
  f283 := Tryz.func105.trans (congrArg some (by kernel_rfl))
  f284 := Tryz.func106.trans (congrArg some (by kernel_rfl))
  f285 := Tryz.func107.trans (congrArg some (by kernel_rfl))
  f286 := Tryz.func108.trans (congrArg some (by kernel_rfl))
  f287 := Tryz.func112.trans (congrArg some (by kernel_rfl))
  f316 := Tryz.func113.trans (congrArg some (by kernel_rfl))
  f317 := Tryz.func115.trans (congrArg some (by kernel_rfl))
  f318 := Tryz.func117.trans (congrArg some (by kernel_rfl))
  f319 := Tryz.func118.trans (congrArg some (by kernel_rfl))
  f320 := Tryz.func119.trans (congrArg some (by kernel_rfl))
  f321 := Tryz.func120.trans (congrArg some (by kernel_rfl))
  f322 := Tryz.func121.trans (congrArg some (by kernel_rfl))
  f337 := Tryz.func122.trans (congrArg some (by kernel_rfl))
  f338 := Tryz.func123.trans (congrArg some (by kernel_rfl))
  t0 := Tryz.underlying0
  a0 := Tryz.isAgg0
  z0 := Tryz.sizeOf0
  v0 := Tryz.zeroValue0
  t2 := Tryz.underlying2
  a2 := Tryz.isAgg2
  z2 := Tryz.sizeOf2
  v2 := Tryz.zeroValue2
  t3 := Tryz.underlying3
  a3 := Tryz.isAgg3
  z3 := Tryz.sizeOf3
  v3 := Tryz.zeroValue3
  t4 := Tryz.underlying4
  a4 := Tryz.isAgg4
  z4 := Tryz.sizeOf4
  v4 := Tryz.zeroValue4
  t5 := Tryz.underlying5
  a5 := Tryz.isAgg5
  z5 := Tryz.sizeOf5
  v5 := Tryz.zeroValue5
  t9 := Tryz.underlying9
  a9 := Tryz.isAgg9
  z9 := Tryz.sizeOf9
  v9 := Tryz.zeroValue9
  t20 := Tryz.underlying20
  a20 := Tryz.isAgg20
  z20 := Tryz.sizeOf20
  v20 := Tryz.zeroValue20
  t21 := Tryz.underlying21
  a21 := Tryz.isAgg21
  z21 := Tryz.sizeOf21
  v21 := Tryz.zeroValue21
  t37 := Tryz.underlying22
  a37 := Tryz.isAgg22
  z37 := Tryz.sizeOf22
  v37 := Tryz.zeroValue22
  t46 := Tryz.underlying110
  a46 := Tryz.isAgg110
  z46 := Tryz.sizeOf110
  v46 := Tryz.zeroValue110
  t51 := Tryz.underlying130
  a51 := Tryz.isAgg130
  z51 := Tryz.sizeOf130
  v51 := Tryz.zeroValue130
  t53 := Tryz.underlying76
  a53 := Tryz.isAgg76
  z53 := Tryz.sizeOf76
  v53 := Tryz.zeroValue76
  t75 := Tryz.underlying93
  a75 := Tryz.isAgg93
  z75 := Tryz.sizeOf93
  v75 := Tryz.zeroValue93
  t76 := Tryz.underlying94
  a76 := Tryz.isAgg94
  z76 := Tryz.sizeOf94
  v76 := Tryz.zeroValue94
  t85 := Tryz.underlying117
  a85 := Tryz.isAgg117
  z85 := Tryz.sizeOf117
  v85 := Tryz.zeroValue117
  t127 := Tryz.underlying111
  a127 := Tryz.isAgg111
  z127 := Tryz.sizeOf111
  v127 := Tryz.zeroValue111
  t143 := Tryz.underlying149
  a143 := Tryz.isAgg149
  z143 := Tryz.sizeOf149
  v143 := Tryz.zeroValue149
  t145 := Tryz.underlying151
  a145 := Tryz.isAgg151
  z145 := Tryz.sizeOf151
  v145 := Tryz.zeroValue151
  t167 := Tryz.underlying116
  a167 := Tryz.isAgg116
  z167 := Tryz.sizeOf116
  v167 := Tryz.zeroValue116
  t168 := Tryz.underlying119
  a168 := Tryz.isAgg119
  z168 := Tryz.sizeOf119
  v168 := Tryz.zeroValue119
  t171 := Tryz.underlying125
  a171 := Tryz.isAgg125
  z171 := Tryz.sizeOf125
  v171 := Tryz.zeroValue125
  t173 := Tryz.underlying128
  a173 := Tryz.isAgg128
  z173 := Tryz.sizeOf128
  v173 := Tryz.zeroValue128
  t175 := Tryz.underlying133
  a175 := Tryz.isAgg133
  z175 := Tryz.sizeOf133
  v175 := Tryz.zeroValue133
  t210 := Tryz.underlying137
  a210 := Tryz.isAgg137
  z210 := Tryz.sizeOf137
  v210 := Tryz.zeroValue137
  t212 := Tryz.underlying140
  a212 := Tryz.isAgg140
  z212 := Tryz.sizeOf140
  v212 := Tryz.zeroValue140
  t213 := Tryz.underlying141
  a213 := Tryz.isAgg141
  z213 := Tryz.sizeOf141
  t232 := Tryz.underlying153
  a232 := Tryz.isAgg153
  z232 := Tryz.sizeOf153
  v232 := Tryz.zeroValue153
  t233 := Tryz.underlying154
  a233 := Tryz.isAgg154
  z233 := Tryz.sizeOf154
  v233 := Tryz.zeroValue154
  g15 := by kernel_rfl
  g16 := by kernel_rfl
  g17 := by kernel_rfl
  g18 := by kernel_rfl
  g19 := by kernel_rfl
  t80 := Tryz.underlying106
  a80 := Tryz.isAgg106
  z80 := Tryz.sizeOf106
  v80 := Tryz.zeroValue106
  i0 := by kernel_rfl
  i2 := by kernel_rfl
  i3 := by kernel_rfl
  i4 := by kernel_rfl
  i5 := by kernel_rfl
  i9 := by kernel_rfl
  i20 := by kernel_rfl
  i21 := by kernel_rfl
  i37 := by kernel_rfl
  i46 := by kernel_rfl
  i51 := by kernel_rfl
  i53 := by kernel_rfl
  i75 := by kernel_rfl
  i76 := by kernel_rfl
  i80 := by kernel_rfl
  i85 := by kernel_rfl
  i127 := by kernel_rfl
  i143 := by kernel_rfl
  i145 := by kernel_rfl
  i167 := by kernel_rfl
  i168 := by kernel_rfl
  i171 := by kernel_rfl
  i173 := by kernel_rfl
  i175 := by kernel_rfl
  i210 := by kernel_rfl
  i212 := by kernel_rfl
  i232 := by kernel_rfl
  i233 := by kernel_rfl
  m15 := by kernel_rfl
  m16 := by kernel_rfl
  m17 := by kernel_rfl
  m18 := by kernel_rfl
  m19 := by kernel_rfl
  c0 := by kernel_rfl
  c2 := by kernel_rfl
  c3 := by kernel_rfl
  c4 := by kernel_rfl
  c5 := by kernel_rfl
  c9 := by kernel_rfl
  c20 := by kernel_rfl
  c21 := by kernel_rfl
  c37 := by kernel_rfl
  c46 := by kernel_rfl
  c51 := by kernel_rfl
  c53 := by kernel_rfl
  c75 := by kernel_rfl
  c76 := by kernel_rfl
  c80 := by kernel_rfl
  c85 := by kernel_rfl
  c127 := by kernel_rfl
  c143 := by kernel_rfl
  c145 := by kernel_rfl
  c167 := by kernel_rfl
  c168 := by kernel_rfl
  c171 := by kernel_rfl
  c173 := by kernel_rfl
  c175 := by kernel_rfl
  c210 := by kernel_rfl
  c212 := by kernel_rfl
  c213 := by kernel_rfl
  c232 := by kernel_rfl
  c233 := by kernel_rfl }
open Go.RowKit in
/-- strconv.Atoi, AT EVERY STRING THAT SPELLS AN int ('Lib.atoiAll .. = .ok v'; of whatever length: leading zeros count): v, AND NO ERROR. The world: as it was, or with the one new row that '[]byte(..)' lays. (LAID: no walk: one application.) -/
theorem strconv_Atoi_ok (s : ByteArray) (hmax : s.size ≤ 9223372036854775806) (v : Int) (h : Lib.atoiAll s.data.toList = .ok v) (w : World) :
    Calls Tryz.prog 69 #[.string s] w fun e w' => e = .returned (.tuple #[.int .i64 v, .nilIface]) ∧ (w' = w ∨ ∃ t, w' = Lib.bytesWorld w 5 t) := Any.strconv_Atoi_ok laysC172 s hmax v h w
open Go.RowKit in
/-- strconv.Atoi, AT EVERY STRING THAT IS NO DECIMAL NUMERAL ('.syntax'): 0, AND AN ERROR THAT IS NOT nil: a *NumError in a new block N: {Func: "Atoi", Num: s's bytes, Err: what the variable ErrSyntax holds}. Of what was there nothing has turned. (LAID: no walk: one application.) -/
theorem strconv_Atoi_syntax (s : ByteArray) (hlim : s.size ≤ 281474976710656) (h : Lib.atoiAll s.data.toList = Lib.NumEnd.syntax) (ev : Value) (w : World) (hv : w.cell? ⟨1, 0, none⟩ = some ev) (hev : ev = .nilIface ∨ ∃ te pe, ev = .iface te pe) :
    Calls Tryz.prog 69 #[.string s] w fun e w' => ∃ N, e = .returned (.tuple #[.int .i64 (0), .iface 119 (.pointer (some ⟨N, 0, none⟩))]) ∧ w.heap.size ≤ N ∧ w'.heap[N]? = some (.cells #[.string ⟨#[65, 116, 111, 105]⟩, .string s, ev] 137 (0, 0)) ∧ Below w.heap.size w w' := Any.strconv_Atoi_syntax laysC172 s hlim h ev w hv hev
open Go.RowKit in
/-- strconv.Atoi, AT EVERY NUMERAL THAT NO int HOLDS ('.range'): THE GREATEST OR THE LEAST int, BY THE SIGN ('Lib.atoiSat'), AND AN ERROR THAT IS NOT nil: a *NumError in a new block N: {Func: "Atoi", Num: s's bytes, Err: what the variable ErrRange holds}. Of what was there nothing has turned. (LAID: no walk: one application.) -/
theorem strconv_Atoi_range (s : ByteArray) (hlim : s.size ≤ 281474976710656) (h : Lib.atoiAll s.data.toList = .range) (ev : Value) (w : World) (hv : w.cell? ⟨2, 0, none⟩ = some ev) (hev : ev = .nilIface ∨ ∃ te pe, ev = .iface te pe) :
    Calls Tryz.prog 69 #[.string s] w fun e w' => ∃ N, e = .returned (.tuple #[.int .i64 (Lib.atoiSat s.data.toList), .iface 119 (.pointer (some ⟨N, 0, none⟩))]) ∧ w.heap.size ≤ N ∧ w'.heap[N]? = some (.cells #[.string ⟨#[65, 116, 111, 105]⟩, .string s, ev] 137 (0, 0)) ∧ Below w.heap.size w w' := Any.strconv_Atoi_range laysC172 s hlim h ev w hv hev
set_option maxRecDepth 100000 in
set_option maxHeartbeats 2000000 in
theorem c_i_within0 {w : World} (p_n : Int) (p_low : Int) (p_high : Int) : Cal Tryz.prog 37 #[.int .i64 (p_n), .int .i64 (p_low), .int .i64 (p_high)] w fun v w' => v = .bool ((i_within p_n p_low p_high)) ∧ Ex w w' := by
 refine Cal.of Tryz.func37 rfl Tryz.ntmps37 rfl (cR (sA rfl (dn (cR (sM rfl ?_)))))
 refine sM rfl (sd rfl (yl_geq rfl rfl rfl (sM rfl (bcase (decide (p_low ≤ p_n)) (fun hb1 => ?_) (fun hb1 => ?_)))))
 ·have hb1p := dec_t hb1
  refine sy rfl rfl hb1 (yM rfl rfl (sy rfl rfl hb1 (yM rfl rfl (sy rfl rfl hb1 (yl_leq rfl rfl rfl (sd rfl (yl_pick_t rfl rfl hb1 rfl (sA rfl (dn (CW.ret (rr rfl (.cons rfl .nil) ?_)))))))))))
  have hM2 : (i_within p_n p_low p_high) = (decide (p_n ≤ p_high)) := by simp only [i_within, hb1, cL]
  rw [hM2]
  exact ⟨rfl, (Ex.refl w)⟩
 ·have hb1p := dec_f hb1
  refine sz rfl rfl hb1 (sz rfl rfl hb1 (sz rfl rfl hb1 (sd rfl (yl_pick_f rfl rfl hb1 rfl (sA rfl (dn (CW.ret (rr rfl (.cons rfl .nil) ?_))))))))
  have hM3 : (i_within p_n p_low p_high) = (false) := by simp only [i_within, hb1, cL]
  rw [hM3]
  exact ⟨rfl, (Ex.refl w)⟩
theorem bytesWorld_ex (w : World) (b : TypeId) (t : ByteArray) : Ex w (Lib.bytesWorld w b t) := Lib.bytesWorld_below w b t
theorem bs_size (s : Str) : (bs s).size = s.length := rfl
theorem Atoi_all {w : World} (s : Str) (ho : okS s) (hgb : GB 1 2 w) : Calls Tryz.prog 69 #[.string (bs s)] w fun e w' => Ex w w' ∧ ((∃ n, Lib.atoiAll s = .ok n ∧ e = .returned (.tuple #[.int .i64 n, .nilIface])) ∨ ((∀ n, Lib.atoiAll s ≠ .ok n) ∧ ∃ n t p, e = .returned (.tuple #[.int .i64 n, .iface t p]))) := by
  have hs : (bs s).data.toList = s := rfl
  have hl : (bs s).size ≤ 1073741824 := ho
  obtain ⟨⟨e1, h1, k1⟩, e2, h2, k2⟩ := hgb
  rcases h : Lib.atoiAll s with v | _ | _
  · refine Calls.mono (strconv_Atoi_ok (bs s) oM v (by rw [hs]; exact h) w) ?_
    rintro e w' ⟨he, hw⟩
    refine ⟨?_, .inl ⟨v, rfl, he⟩⟩
    rcases hw with rfl | ⟨t, rfl⟩
    · exact Ex.refl _
    · exact bytesWorld_ex _ _ _
  · refine Calls.mono (strconv_Atoi_syntax (bs s) oM (by rw [hs]; exact h) e1 w h1 k1) ?_
    rintro e w' ⟨N, he, _, _, hB⟩
    exact ⟨hB, .inr ⟨fun n hn => (by cases hn), _, _, _, he⟩⟩
  · refine Calls.mono (strconv_Atoi_range (bs s) oM (by rw [hs]; exact h) e2 w h2 k2) ?_
    rintro e w' ⟨N, he, _, _, hB⟩
    exact ⟨hB, .inr ⟨fun n hn => (by cases hn), _, _, _, he⟩⟩
theorem readInt_digit {c : UInt8} (h1 : 48 ≤ c.toNat) (h2 : c.toNat ≤ 57) : Lib.atoiAll [c] = .ok ((c.toNat : Int) - 48) := by
  have hm : Lib.parseMag [c] = .ok (c.toNat - 48) := by
    unfold Lib.parseMag
    rw [if_neg (by simp)]
    simp only [Lib.parseUint10]
    rw [if_pos ⟨h1, h2⟩, if_neg oM, if_neg oM, Nat.zero_mul, Nat.zero_add]
  simp only [Lib.atoiAll]
  rw [if_neg (show ¬(c.toNat = 43 ∨ c.toNat = 45) by omega), hm]
  simp only
  rw [if_neg oM, if_neg oM, if_neg oM]
  congr 1
  omega
/-- a text that is read as n is the digit of n, or not read -/
theorem readInt_ok {s : Str} {n low high : Int} (h : Lib.atoiAll s = .ok n) (hw : i_within n low high = true) (hl : 0 ≤ low) (hh : high ≤ 9) : i_readInt s low high = bif g_strconv_Itoa n == s then (n, true) else (0, false) := by
  have hb := f_within hw
  cases hc : g_strconv_Itoa n == s
  · rw [cond_false]
    unfold i_readInt
    split
    · rename_i c
      cases hd : (decide (48 ≤ c.toNat) && decide (c.toNat ≤ 57) && i_within ((c.toNat : Int) - 48) low high)
      · rfl
      · simp only [Bool.and_eq_true, decide_eq_true_eq] at hd
        rw [readInt_digit hd.1.1 hd.1.2] at h
        cases h
        exfalso
        have : g_strconv_Itoa ((c.toNat : Int) - 48) = [c] := by
          unfold g_strconv_Itoa
          rw [show ((48 : Int) + ((c.toNat : Int) - 48)).toNat = c.toNat by omega]
          simp
        rw [this] at hc
        simp at hc
    · rfl
  · rw [cond_true]
    have hs : g_strconv_Itoa n = s := by simpa using hc
    subst hs
    unfold g_strconv_Itoa i_readInt
    have e : ((48 + n).toNat.toUInt8).toNat = (48 + n).toNat := by
      rw [Nat.toUInt8, UInt8.toNat_ofNat']; omega
    simp only [e]
    rw [show (((48 + n).toNat : Int) - 48) = n by omega, hw]
    rw [decide_eq_true oM, decide_eq_true oM]
    rfl
theorem readInt_no {s : Str} {low high : Int} (h : (∀ n, Lib.atoiAll s ≠ .ok n) ∨ ∃ n, Lib.atoiAll s = .ok n ∧ i_within n low high = false) : i_readInt s low high = (0, false) := by
  unfold i_readInt
  split
  · rename_i c
    cases hd : (decide (48 ≤ c.toNat) && decide (c.toNat ≤ 57) && i_within ((c.toNat : Int) - 48) low high)
    · rfl
    · simp only [Bool.and_eq_true, decide_eq_true_eq] at hd
      have h3 := readInt_digit hd.1.1 hd.1.2
      rcases h with h | ⟨n, h, hw⟩
      · exact absurd h3 (h _)
      · rw [h3] at h; cases h; rw [hd.2] at hw; cases hw
  · rfl
set_option maxRecDepth 100000 in
set_option maxHeartbeats 2000000 in
theorem c_i_readInt {w : World} (p_s : Str) (p_low : Int) (p_high : Int) (o1 : okS p_s) (pre0 : 0 ≤ p_low) (pre1 : p_high ≤ 9) (hgb : GB 1 2 w) : Cal Tryz.prog 46 #[.string (bs (p_s)), .int .i64 (p_low), .int .i64 (p_high)] w fun v w' => v = .tuple #[.int .i64 ((i_readInt p_s p_low p_high).1), .bool ((i_readInt p_s p_low p_high).2)] ∧ Ex w w' := by
  refine (callsIn_wide (n := 3)).1 ?_
  refine callsIn_of_wp Tryz.func46 rfl trivial ?_ rfl
  simp only [Tryz.ntmps46, List.size_toArray, List.length_cons, List.length_nil, Nat.reduceAdd, Nat.reduceSub, Array.replicate_succ, Array.replicate_zero, List.push_toArray, List.append_toArray, List.nil_append, List.cons_append]
  have hA := Atoi_all p_s o1 hgb
  rcases hat : Lib.atoiAll p_s with n | _ | _
  · have hA : Calls Tryz.prog 69 #[.string (bs p_s)] w fun e w' => e = .returned (.tuple #[.int .i64 n, .nilIface]) ∧ Ex w w' := hA.mono fun e w' ⟨hE, h⟩ => by
      rcases h with ⟨m, h1, h2⟩ | ⟨h1, _⟩
      · rw [hat] at h1; cases h1; exact ⟨h2, hE⟩
      · exact absurd hat (h1 n)
    have hW : ∀ w', Calls Tryz.prog 37 #[.int .i64 n, .int .i64 p_low, .int .i64 p_high] w' fun e w2 => e = .returned (.bool (i_within n p_low p_high)) ∧ Ex w' w2 := fun w' => Calls.mono (c_i_within0 n p_low p_high) fun e w2 ⟨v, h1, h2, h3⟩ => ⟨by rw [h1, h2], h3⟩
    cases hw : i_within n p_low p_high
    · rw [readInt_no (.inr ⟨n, hat, hw⟩)]
      simp only [hw] at hW
      gi_wp2_with (first | (refine ⟨trivial, ?_⟩; gi_at_call 69; refine (callsIn_wide.2 hA).mono ?_; rintro e w1 ⟨rfl, hE1⟩) | (refine ⟨trivial, ?_⟩; gi_at_call 37; refine (callsIn_wide.2 (hW _)).mono ?_; rintro e w2 ⟨rfl, hE2⟩))
      refine ⟨trivial, ?_⟩
      gi_wp2
      go_ret2
      exact ⟨_, rfl, rfl, hE1.trans hE2⟩
    · have hb := f_within hw
      have hI : ∀ w', Calls Tryz.prog 66 #[.int .i64 n] w' fun e w2 => e = .returned (.string (bs (g_strconv_Itoa n))) ∧ Ex w' w2 := fun w' => Calls.mono (c_g_strconv_Itoa n oM) fun e w2 ⟨v, h1, h2, h3, h4⟩ => ⟨by rw [h1, h2], h4⟩
      rw [readInt_ok hat hw pre0 pre1]
      simp only [hw] at hW
      cases hc : g_strconv_Itoa n == p_s
      · have hcmp : ((bs (g_strconv_Itoa n)).toList == (bs p_s).toList) = false := by rw [bs_toList, bs_toList]; exact hc
        gi_wp2_with (first | (refine ⟨trivial, ?_⟩; gi_at_call 69; refine (callsIn_wide.2 hA).mono ?_; rintro e w1 ⟨rfl, hE1⟩) | (refine ⟨trivial, ?_⟩; gi_at_call 37; refine (callsIn_wide.2 (hW _)).mono ?_; rintro e w2 ⟨rfl, hE2⟩) | (refine ⟨trivial, ?_⟩; gi_at_call 66; refine (callsIn_wide.2 (hI _)).mono ?_; rintro e w3 ⟨rfl, hE3⟩))
        go_ret2
        exact ⟨_, rfl, rfl, hE1.trans (hE2.trans hE3)⟩
      · have he : g_strconv_Itoa n = p_s := by simpa using hc
        rw [he] at hI
        have hcmp : ((bs p_s).toList == (bs p_s).toList) = true := beq_self_eq_true _
        gi_wp2_with (first | (refine ⟨trivial, ?_⟩; gi_at_call 69; refine (callsIn_wide.2 hA).mono ?_; rintro e w1 ⟨rfl, hE1⟩) | (refine ⟨trivial, ?_⟩; gi_at_call 37; refine (callsIn_wide.2 (hW _)).mono ?_; rintro e w2 ⟨rfl, hE2⟩) | (refine ⟨trivial, ?_⟩; gi_at_call 66; refine (callsIn_wide.2 (hI _)).mono ?_; rintro e w3 ⟨rfl, hE3⟩))
        go_ret2
        exact ⟨_, rfl, rfl, hE1.trans (hE2.trans hE3)⟩
  · have hA : Calls Tryz.prog 69 #[.string (bs p_s)] w fun e w' => (∃ n t p, e = .returned (.tuple #[.int .i64 n, .iface t p])) ∧ Ex w w' := hA.mono fun e w' ⟨hE, h⟩ => by
      rcases h with ⟨m, h1, h2⟩ | ⟨_, h2⟩
      · rw [hat] at h1; cases h1
      · exact ⟨h2, hE⟩
    rw [readInt_no (.inl fun n => by rw [hat]; simp)]
    gi_wp2_with (refine ⟨trivial, ?_⟩; gi_at_call 69; refine (callsIn_wide.2 hA).mono ?_; rintro e w1 ⟨⟨n, t, p, rfl⟩, hE1⟩)
    refine ⟨trivial, ?_⟩
    gi_wp2
    refine ⟨trivial, ?_⟩
    gi_wp2
    go_ret2
    exact ⟨_, rfl, rfl, hE1⟩
  · have hA : Calls Tryz.prog 69 #[.string (bs p_s)] w fun e w' => (∃ n t p, e = .returned (.tuple #[.int .i64 n, .iface t p])) ∧ Ex w w' := hA.mono fun e w' ⟨hE, h⟩ => by
      rcases h with ⟨m, h1, h2⟩ | ⟨_, h2⟩
      · rw [hat] at h1; cases h1
      · exact ⟨h2, hE⟩
    rw [readInt_no (.inl fun n => by rw [hat]; simp)]
    gi_wp2_with (refine ⟨trivial, ?_⟩; gi_at_call 69; refine (callsIn_wide.2 hA).mono ?_; rintro e w1 ⟨⟨n, t, p, rfl⟩, hE1⟩)
    refine ⟨trivial, ?_⟩
    gi_wp2
    refine ⟨trivial, ?_⟩
    gi_wp2
    go_ret2
    exact ⟨_, rfl, rfl, hE1⟩

end Go.Proofs.YtgfkmgjpannelaaGreatDoor
