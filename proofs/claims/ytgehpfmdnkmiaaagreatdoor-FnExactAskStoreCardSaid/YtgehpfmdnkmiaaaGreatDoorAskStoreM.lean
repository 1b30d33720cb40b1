/- Ask Store: what slices.SortFunc leaves: the library's contract, laid at this program by its tool; its closure is walked. -/
import Derived.Shelf.SlSortCmp.NoneTotal
import Derived.Shelf.Abstract
import Derived.Shelf.RegionOpen
import Derived.WalkKit
import Derived.OwnWalkIn
import Derived.TacticsInMore
import Derived.LoopNIn
import Derived.LoopIn
import Derived.Sort.Grow
import Derived.Test.YtgehpfmdnkmiaaaGreatDoorEO
import Derived.Test.YtgehpfmdnkmiaaaGreatDoorProg
import Derived.Test.YtgehpfmdnkmiaaaGreatDoorAskStoreL
import Derived.Test.YtgehpfmdnkmiaaaGreatDoorAskStoreF
import Derived.Test.YtgehpfmdnkmiaaaGreatDoorAskStoreQ
import Derived.Test.YtgehpfmdnkmiaaaGreatDoorAskStoreS
set_option linter.unusedVariables false
set_option linter.unusedSimpArgs false
namespace Go.Proofs.YtgehpfmdnkmiaaaGreatDoor
open Go.RowKit Go.X
open Go.Shelf Go.Lib Go.Sort
attribute [local go_sem] Oper.semAt_some
def sortE_ren : Go.Shelf.Ren := ⟨fun | 6 => 64 | 15 => 101 | 14 => 100 | 28 => 128 | 29 => 129 | 20 => 120 | 21 => 121 | 22 => 122 | 23 => 123 | 24 => 124 | 25 => 125 | 26 => 126 | 27 => 127 | 46 => 139 | 47 => 140 | 48 => 141 | 49 => 142 | 50 => 143 | 57 => 152 | n => n, fun | 22 => 99 | 24 => 104 | 25 => 108 | 3 => 3 | 39 => 137 | 0 => 0 | 53 => 156 | 55 => 158 | 4 => 4 | 46 => 149 | 45 => 148 | 50 => 153 | 5 => 5 | 9 => 9 | 66 => 165 | 70 => 169 | 76 => 175 | 77 => 176 | n => n, fun | n => n⟩
theorem sortE : Go.Proofs.SlLaysF0.n6 Tryz.prog sortE_ren := {
  mixed := by kernel_rfl
  f6 := ⟨Tryz.f64.name, by decide, Tryz.func64.trans (congrArg some (by kernel_rfl))⟩
  f14 := ⟨Tryz.f100.name, by decide, Tryz.func100.trans (congrArg some (by kernel_rfl))⟩
  f15 := Tryz.func101.trans (congrArg some (by kernel_rfl))
  f20 := ⟨Tryz.f120.name, by decide, Tryz.func120.trans (congrArg some (by kernel_rfl))⟩
  f21 := ⟨Tryz.f121.name, by decide, Tryz.func121.trans (congrArg some (by kernel_rfl))⟩
  f22 := ⟨Tryz.f122.name, by decide, Tryz.func122.trans (congrArg some (by kernel_rfl))⟩
  f23 := ⟨Tryz.f123.name, by decide, Tryz.func123.trans (congrArg some (by kernel_rfl))⟩
  f24 := ⟨Tryz.f124.name, by decide, Tryz.func124.trans (congrArg some (by kernel_rfl))⟩
  f25 := ⟨Tryz.f125.name, by decide, Tryz.func125.trans (congrArg some (by kernel_rfl))⟩
  f26 := ⟨Tryz.f126.name, by decide, Tryz.func126.trans (congrArg some (by kernel_rfl))⟩
  f27 := ⟨Tryz.f127.name, by decide, Tryz.func127.trans (congrArg some (by kernel_rfl))⟩
  f28 := Tryz.func128.trans (congrArg some (by kernel_rfl))
  f29 := Tryz.func129.trans (congrArg some (by kernel_rfl))
  f46 := ⟨Tryz.f139.name, by decide, Tryz.func139.trans (congrArg some (by kernel_rfl))⟩
  f47 := Tryz.func140.trans (congrArg some (by kernel_rfl))
  f48 := Tryz.func141.trans (congrArg some (by kernel_rfl))
  f49 := ⟨Tryz.f142.name, by decide, Tryz.func142.trans (congrArg some (by kernel_rfl))⟩
  f50 := ⟨Tryz.f143.name, by decide, Tryz.func143.trans (congrArg some (by kernel_rfl))⟩
  f57 := ⟨Tryz.f152.name, by decide, Tryz.func152.trans (congrArg some (by kernel_rfl))⟩
  t0 := Tryz.underlying0
  a0 := Tryz.isAgg0
  z0 := Tryz.sizeOf0
  v0 := Tryz.zeroValue0
  t3 := Tryz.underlying3
  a3 := Tryz.isAgg3
  z3 := Tryz.sizeOf3
  v3 := Tryz.zeroValue3
  t4 := Tryz.underlying4
  a4 := Tryz.isAgg4
  z4 := Tryz.sizeOf4
  v4 := Tryz.zeroValue4
  t5 := Tryz.underlying5
  a5 := Tryz.isAgg5
  z5 := Tryz.sizeOf5
  v5 := Tryz.zeroValue5
  t9 := Tryz.underlying9
  a9 := Tryz.isAgg9
  z9 := Tryz.sizeOf9
  v9 := Tryz.zeroValue9
  t22 := Tryz.underlying99
  a22 := Tryz.isAgg99
  z22 := Tryz.sizeOf99
  v22 := Tryz.zeroValue99
  t25 := Tryz.underlying108
  a25 := Tryz.isAgg108
  z25 := Tryz.sizeOf108
  v25 := Tryz.zeroValue108
  t39 := Tryz.underlying137
  a39 := Tryz.isAgg137
  z39 := Tryz.sizeOf137
  v39 := Tryz.zeroValue137
  t45 := Tryz.underlying148
  a45 := Tryz.isAgg148
  z45 := Tryz.sizeOf148
  v45 := Tryz.zeroValue148
  t46 := Tryz.underlying149
  a46 := Tryz.isAgg149
  z46 := Tryz.sizeOf149
  v46 := Tryz.zeroValue149
  t50 := Tryz.underlying153
  a50 := Tryz.isAgg153
  z50 := Tryz.sizeOf153
  v50 := Tryz.zeroValue153
  t53 := Tryz.underlying156
  a53 := Tryz.isAgg156
  z53 := Tryz.sizeOf156
  v53 := Tryz.zeroValue156
  t55 := Tryz.underlying158
  a55 := Tryz.isAgg158
  z55 := Tryz.sizeOf158
  v55 := Tryz.zeroValue158
  t66 := Tryz.underlying165
  a66 := Tryz.isAgg165
  z66 := Tryz.sizeOf165
  v66 := Tryz.zeroValue165
  t70 := Tryz.underlying169
  a70 := Tryz.isAgg169
  z70 := Tryz.sizeOf169
  v70 := Tryz.zeroValue169
  t76 := Tryz.underlying175
  a76 := Tryz.isAgg175
  z76 := Tryz.sizeOf175
  v76 := Tryz.zeroValue175
  t77 := Tryz.underlying176
  a77 := Tryz.isAgg176
  z77 := Tryz.sizeOf176
  v77 := Tryz.zeroValue176 }
theorem run_gtrS (P : Program) (a b : Str) (w : World) (t : TypeId) : (binOp .gtr t (.string (bs a)) (.string (bs b))).run P w = .ok (.bool (!(sLe a b))) w := by
  simp only [binOp, Op.stringOp, bs_toList, Sem.run_pure, sLt, sLe]
attribute [local go_sem] run_gtrS
set_option maxRecDepth 100000 in
set_option maxHeartbeats 2000000 in
theorem isNaN_x (s : Str) (W : World) : Calls Tryz.prog 102 #[.string (bs s)] W fun e w' => e = .returned (.bool false) ∧ w' = W := by
  refine (callsIn_wide (n := 9)).1 (callsIn_of_wp Tryz.func102 rfl trivial ?_ rfl)
  simp only [Tryz.ntmps102, List.size_toArray, List.length_cons, List.length_nil, Nat.reduceAdd, Nat.reduceSub, Array.replicate_succ, Array.replicate_zero, List.push_toArray, List.append_toArray, List.nil_append, List.cons_append]
  have hcmp : ((bs s).toList == (bs s).toList) = true := beq_self_eq_true _
  gi_wp2
  go_ret
  exact ⟨rfl, rfl⟩
set_option maxRecDepth 100000 in
set_option maxHeartbeats 2000000 in
theorem Compare_x (x y : Str) (W : World) : Calls Tryz.prog 67 #[.string (bs x), .string (bs y)] W fun e w' => e = .returned (.int .i64 (cS x y)) ∧ w' = W := by
  refine (callsIn_wide (n := 9)).1 (callsIn_of_wp Tryz.func67 rfl trivial ?_ rfl)
  simp only [Tryz.ntmps67, List.size_toArray, List.length_cons, List.length_nil, Nat.reduceAdd, Nat.reduceSub, Array.replicate_succ, Array.replicate_zero, List.push_toArray, List.append_toArray, List.nil_append, List.cons_append]
  have h1 : cS x y = bif Op.bytesLess (bs x).toList (bs y).toList then -1 else bif !(sLe x y) then 1 else 0 := by
    unfold cS
    rw [bs_toList, bs_toList]
    cases h : sLe x y <;> simp [sLt]
  rw [h1]
  gi_wp2_with (refine ⟨trivial, ?_⟩; gi_at_call 102; refine (callsIn_wide.2 (isNaN_x _ _)).mono ?_; rintro e w' ⟨rfl, rfl⟩)
  all_goals
    go_ret
    refine ⟨?_, rfl⟩
    simp_all
set_option maxRecDepth 100000 in
set_option maxHeartbeats 2000000 in
theorem Or_x (a b : Int) (bk : Nat) (W : World) (ca : W.cell? ⟨bk, 0, none⟩ = some (.int .i64 a)) (cb : W.cell? ⟨bk, 1, none⟩ = some (.int .i64 b)) : Calls Tryz.prog 66 #[.slice (some ⟨bk, 0, none⟩) 2 2] W fun e w' => e = .returned (.int .i64 (bif decide (a = 0) then b else a)) ∧ w' = W := by
  refine (callsIn_wide (n := 9)).1 (callsIn_of_wp Tryz.func66 rfl trivial ?_ rfl)
  simp only [Tryz.ntmps66, List.size_toArray, List.length_cons, List.length_nil, Nat.reduceAdd, Nat.reduceSub, Array.replicate_succ, Array.replicate_zero, List.push_toArray, List.append_toArray, List.nil_append, List.cons_append]
  gi_wp2
  gi_loopw [8] (fun i wr => wr = W ∧ (i = .int .i64 0 ∨ (i = .int .i64 1 ∧ a = 0) ∨ (i = .int .i64 2 ∧ a = 0 ∧ b = 0))) (fun i _ => (2 - intOf i).toNat)
  case atStart => exact ⟨rfl, .inl rfl⟩
  case round =>
    obtain ⟨rfl, rfl | ⟨rfl, rfl⟩ | ⟨rfl, rfl, rfl⟩⟩ := hrel
    · gi_wp2
      · refine bodyPost_ret (results_tmp rfl _ _ _) rfl ?_
        refine ⟨?_, rfl⟩
        simp_all
      · simp_all [intOf]
    · gi_wp2
      · refine bodyPost_ret (results_tmp rfl _ _ _) rfl ?_
        refine ⟨?_, rfl⟩
        simp_all
      · simp_all [intOf]
    · gi_wp2
      refine bodyPost_ret (results_tmp rfl _ _ _) rfl ?_
      exact ⟨rfl, rfl⟩
set_option maxRecDepth 100000 in
set_option maxHeartbeats 2000000 in
theorem cmp_x (x1 x2 y1 y2 : Str) (W : World) : Calls Tryz.prog 65 #[.agg #[.string (bs x1), .string (bs x2)], .agg #[.string (bs y1), .string (bs y2)]] W fun e w' => e = .returned (.int .i64 (cE ⟨x1, x2⟩ ⟨y1, y2⟩)) ∧ ∃ q os', w' = grow (W.drewN q) os' := by
  refine (callsIn_wide (n := 9)).1 (callsIn_of_wp Tryz.func65 rfl trivial ?_ rfl)
  simp only [Tryz.ntmps65, List.size_toArray, List.length_cons, List.length_nil, Nat.reduceAdd, Nat.reduceSub, Array.replicate_succ, Array.replicate_zero, List.push_toArray, List.append_toArray, List.nil_append, List.cons_append]
  have hmx : Tryz.prog.follows .mixedOrders = true := by kernel_rfl
  have hsz : ((W.alloc (.cells #[.string (bs x1), .string (bs x2)] 104)).alloc (.cells #[.string (bs y1), .string (bs y2)] 104)).heap.size = W.heap.size + 1 + 1 := by simp
  have hOr := Or_x (cS x1 y1) (cS x2 y2) (W.heap.size + 1 + 1) (((W.alloc (.cells #[.string (bs x1), .string (bs x2)] 104)).alloc (.cells #[.string (bs y1), .string (bs y2)] 104)).alloc (.cells #[.int .i64 (cS x1 y1), .int .i64 (cS x2 y2)] 3)).drew
    (by rw [← hsz]; exact (alloc_facts _ [.int .i64 (cS x1 y1), .int .i64 (cS x2 y2)] 3).2.1.cell 0) (by rw [← hsz]; exact (alloc_facts _ [.int .i64 (cS x1 y1), .int .i64 (cS x2 y2)] 3).2.1.cell 1)
  clear hsz
  have hce : (bif decide (cS x1 y1 = 0) then cS x2 y2 else cS x1 y1) = cE ⟨x1, x2⟩ ⟨y1, y2⟩ := rfl
  rw [hce] at hOr
  clear hce
  generalize cE ⟨x1, x2⟩ ⟨y1, y2⟩ = r at hOr ⊢
  gi_wp2
  gi_region_with_o (first | (refine ⟨trivial, ?_⟩; gi_at_call 67; refine (callsIn_wide.2 (Compare_x _ _ _)).mono ?_; rintro e w' ⟨rfl, rfl⟩) | (refine ⟨trivial, ?_⟩; gi_at_call 66; refine (callsIn_wide.2 hOr).mono ?_; rintro e w' ⟨rfl, rfl⟩))
  all_goals
    gi_wp2
    go_ret
    exact ⟨rfl, 1, #[.cells #[.string (bs x1), .string (bs x2)] 104, .cells #[.string (bs y1), .string (bs y2)] 104, .cells #[.int .i64 (cS x1 y1), .int .i64 (cS x2 y2)] 3], by
      rw [alloc_eq_grow, alloc_eq_grow, alloc_eq_grow, grow_grow, grow_grow, drew_grow]; rfl⟩
instance inhE : Inhabited DEntry := ⟨d_Entry⟩
theorem swoE : Go.Sort.SWO (ltOf cE) where
  irrefl x := (cE_neg x x).trans (ltE_irr x)
  trans x y z h1 h2 := (cE_neg x z).trans (ltE_tr ((cE_neg x y).symm.trans h1) ((cE_neg y z).symm.trans h2))
  ntrans x y z h1 h2 := (cE_neg x z).trans (ltE_ntr ((cE_neg x y).symm.trans h1) ((cE_neg y z).symm.trans h2))
set_option maxRecDepth 100000 in
set_option maxHeartbeats 2000000 in
theorem c_g_slices_SortFunc_entry {A1 : Option Addr} {c1 lo1 hi1 : Nat} {w : World} (p_s : List DEntry) (h1 : OwnL w lo1 hi1 104 2 (RF e_Entry) A1 p_s.length c1 p_s) (hrn2 : (0 ≤ lo1 ∧ lo1 ≤ hi1 ∧ hi1 ≤ w.heap.size)) : Cal Tryz.prog 64 #[.slice A1 p_s.length c1, .func (.func 65) #[] #[]] w fun v w' => v = .tuple #[] ∧ OwnL w' lo1 hi1 104 2 (RF e_Entry) A1 p_s.length c1 (g_slices_SortFunc_entry p_s) ∧ Mut [(lo1, hi1)] w w' := by
  rcases Nat.eq_zero_or_pos p_s.length with h0 | hpos
  · obtain rfl := List.eq_nil_of_length_eq_zero h0
    have hc : Calls Tryz.prog 64 #[.slice A1 0 c1, .func (.func 65) #[] #[]] w fun e w' => e = .returned (.tuple #[]) ∧ w' = w := AnyF.slices_SortFunc_none sortE A1 c1 _ w
    refine Calls.mono hc ?_
    rintro e w' ⟨he, rfl⟩
    have e0 : g_slices_SortFunc_entry ([] : List DEntry) = [] := by unfold g_slices_SortFunc_entry; exact List.mergeSort_nil
    exact ⟨_, he, rfl, by rw [e0]; exact h1, Mut.refl _⟩
  · obtain ⟨g, rfl, hg, hH, hS⟩ := OwnL.sorted (enc := e_Entry) (k := 2) (fun _ => rfl) h1 hpos
    have hn : p_s.toArray.size = p_s.length := List.size_toArray ..
    have hb := RdS.big (OwnL.rd good_Entry h1)
    have hc := AnyQ.slices_SortFunc_total sortE 2 Tryz.isAgg104 Tryz.sizeOf104 e_Entry (fun _ => rfl) (fun x v hv => by simp [e_Entry] at hv; rcases hv with rfl | rfl <;> rfl) cE swoE 65 #[] g 0 c1 p_s.toArray w
      (enters_of Tryz.func65 (by kernel_rfl) rfl) (fun _ _ _ _ x y => cmp_x x.val x.primary y.val y.primary _) hH hg oM
      (fun x y a b => ltE_tot ((cE_neg x y).symm.trans a) ((cE_neg y x).symm.trans b))
    rw [hn] at hc
    refine Calls.mono (show Calls Tryz.prog 64 _ _ _ from hc) ?_
    rintro e w' ⟨he, m, os, hw⟩
    obtain ⟨s1, s2⟩ := hS ((p_s.toArray.toList.mergeSort fun x y => !(ltOf cE) y x)) os m w' (by rw [List.length_mergeSort]) hw
    exact ⟨_, he, rfl, s1, s2⟩

end Go.Proofs.YtgehpfmdnkmiaaaGreatDoor
