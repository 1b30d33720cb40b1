/- laws.FnExactScanRange returns true, whatever its arguments are, and leaves what its arguments read as they were. Conditions: those of the given statement, and no more. -/
import Derived.Test.YtdhfokkkpcelpaaGreatDoorRows
import Derived.Test.YtdhfokkkpcelpaaGreatDoorChecked
import Derived.Test.YtdhfokkkpcelpaaGreatDoorCards
import Derived.Test.YtdhfokkkpcelpaaGreatDoorTie
import Derived.MakeChecks
import Derived.Lay
import Derived.LaidOnce
import Derived.SevenTiedAt
import Derived.Test.YtdhfokkkpcelpaaGreatDoorScanRangeC4
set_option linter.unusedVariables false
set_option linter.unusedSimpArgs false
namespace Go.Proofs.YtdhfokkkpcelpaaGreatDoor.lawScanRange
open Go.ChangeShapes Go.WideShapes Go.ChangeAt Go.RowKit Go.X Go.Proofs.YtdhfokkkpcelpaaGreatDoor
theorem own : ownKnob Tryz.prog.godebug = none := by kernel_rfl
theorem laid : laidOutB Tryz.prog = true := by kernel_rfl
theorem op_9 : Opens Tryz.prog 9 (RF e_Str) wfS := opens_string Tryz.underlying9
theorem op_22 : Opens Tryz.prog 22 (RL (RF e_Str) 1) (wfL wfS) := opens_slice (by_ := 16) Tryz.underlying22 (by kernel_rfl) (by kernel_rfl) rfl (Nat.le_of_ble_eq_true rfl) op_9
theorem op_3 : Opens Tryz.prog 3 (RF e_Int) wfI := opens_int Tryz.underlying3
theorem op_76 : Opens Tryz.prog 76 (RF e_Idx) wf_Idx := by
  intro H enc w base spare held fuel cs x h hw
  obtain ⟨xs, n, -, hx, hl, hn, hf⟩ := DataW.trod_struct Tryz.underlying76 h
  subst hx
  have hl0 : cs.length = 3 := hl.trans (by kernel_rfl)
  obtain ⟨y0, r0, w0⟩ := opens_field op_9 Tryz.underlying76 hw hn hf 0 (o := 0) (n := 1) rfl rfl rfl (by kernel_rfl)
  obtain ⟨y1, r1, w1⟩ := opens_field op_3 Tryz.underlying76 hw hn hf 1 (o := 1) (n := 1) rfl rfl rfl (by kernel_rfl)
  obtain ⟨y2, r2, w2⟩ := opens_field op_3 Tryz.underlying76 hw hn hf 2 (o := 2) (n := 1) rfl rfl rfl (by kernel_rfl)
  exact ⟨⟨y0, y1, y2⟩, asm r0 (asm r1 (asm r2 (asm_end hl0))), ⟨w0, w1, w2⟩⟩
theorem op_23 : Opens Tryz.prog 23 (RL (RF e_Idx) 3) (wfL wf_Idx) := opens_slice (by_ := 32) Tryz.underlying23 (by kernel_rfl) (by kernel_rfl) rfl (Nat.le_of_ble_eq_true rfl) op_76
theorem op_25 : Opens Tryz.prog 25 R_Table wf_Table := by
  intro H enc w base spare held fuel cs x h hw
  obtain ⟨xs, n, -, hx, hl, hn, hf⟩ := DataW.trod_struct Tryz.underlying25 h
  subst hx
  have hl0 : cs.length = 3 := hl.trans (by kernel_rfl)
  obtain ⟨y0, r0, w0⟩ := opens_field op_9 Tryz.underlying25 hw hn hf 0 (o := 0) (n := 1) rfl rfl rfl (by kernel_rfl)
  obtain ⟨y1, r1, w1⟩ := opens_field op_22 Tryz.underlying25 hw hn hf 1 (o := 1) (n := 1) rfl rfl rfl (by kernel_rfl)
  obtain ⟨y2, r2, w2⟩ := opens_field op_23 Tryz.underlying25 hw hn hf 2 (o := 2) (n := 1) rfl rfl rfl (by kernel_rfl)
  obtain ⟨A1, c1, r1, h1⟩ := r1
  obtain ⟨A2, c2, r2, h2⟩ := r2
  exact ⟨⟨y0, y1, y2⟩, ⟨A1, c1, A2, c2, asm r0 (asm r1 (asm r2 (asm_end hl0))), h1, h2⟩, ⟨w0, w1, w2⟩⟩
theorem op_4 : Opens Tryz.prog 4 (RF e_Bool) wfT := opens_bool Tryz.underlying4
theorem op_49 : Opens Tryz.prog 49 (RF e_Write) wf_Write := by
  intro H enc w base spare held fuel cs x h hw
  obtain ⟨xs, n, -, hx, hl, hn, hf⟩ := DataW.trod_struct Tryz.underlying49 h
  subst hx
  have hl0 : cs.length = 3 := hl.trans (by kernel_rfl)
  obtain ⟨y0, r0, w0⟩ := opens_field op_9 Tryz.underlying49 hw hn hf 0 (o := 0) (n := 1) rfl rfl rfl (by kernel_rfl)
  obtain ⟨y1, r1, w1⟩ := opens_field op_9 Tryz.underlying49 hw hn hf 1 (o := 1) (n := 1) rfl rfl rfl (by kernel_rfl)
  obtain ⟨y2, r2, w2⟩ := opens_field op_4 Tryz.underlying49 hw hn hf 2 (o := 2) (n := 1) rfl rfl rfl (by kernel_rfl)
  exact ⟨⟨y0, y1, y2⟩, asm r0 (asm r1 (asm r2 (asm_end hl0))), ⟨w0, w1⟩⟩
theorem op_26 : Opens Tryz.prog 26 (RL (RF e_Write) 3) (wfL wf_Write) := opens_slice (by_ := 40) Tryz.underlying26 (by kernel_rfl) (by kernel_rfl) rfl (Nat.le_of_ble_eq_true rfl) op_49
set_option maxRecDepth 100000 in
set_option maxHeartbeats 2000000 in
theorem lifted (os : Os) (started : os.Started) (H : Type) (enc : TypeId × Value → H) :
    ReturnsInHanded {} Tryz.checked os 3 .any (fun w args => (Rows.fnExactScanRangeSpec.pre enc Tryz.prog Tryz.f3 [] false w args ∧ laidMetH Tryz.prog Rows.fnExactScanRangeRow.laid w) ∧ sizedMet enc Tryz.prog Tryz.f3 (OpenSpec.ofChange Rows.fnExactScanRangeSpec) false w args) (Rows.fnExactScanRangeSpec.post enc Tryz.prog Tryz.f3 false true false false) := by
  refine returnsInHanded_of_change_and (C := Tryz.checked) (X := fun w _ => laidMetH Tryz.prog Rows.fnExactScanRangeRow.laid w) (fun _ _ _ hh h => h.of_heap hh) own started (by kernel_rfl) Tryz.func3
    (ChangeSpec.witness_shaped (enc := enc) (C := Tryz.checked) (os := os) (X := fun w _ => laidMetH Tryz.prog Rows.fnExactScanRangeRow.laid w) false (World.laidAll Tryz.prog os Rows.fnExactScanRangeRow.laid) #[.agg #[.string ByteArray.empty, .slice none 0 0, .slice none 0 0], .slice none 0 0, .int .i64 (0), .string ByteArray.empty, .string ByteArray.empty] 8 (World.laidAll_os _ _ _)
      (World.shaped_of_ZipB (by kernel_rfl) (by kernel_rfl)) (by kernel_rfl) (by kernel_rfl) (by kernel_rfl)
      (by rw [MakeChecks.laidMetH_plain _ _ _ (by kernel_rfl)]; exact laidMet_laidAll _ (by kernel_rfl) (by kernel_rfl))) ?_
  intro W base args ds gs before hval0 hW _ hsz0 hL0 _
  have hval : ∀ (j : Nat) t v, Tryz.f3.params[j]? = some t → args[j]? = some v → Value.okWide Tryz.prog W .any base t v := hval0
  have hsz1 : (DataW.weightsEach Tryz.prog (Tryz.f3.params.toList ++ Rows.fnExactScanRangeSpec.plain.varTypes Tryz.prog) (ds ++ gs)).all (· ≤ reachBytes) = true := hsz0
  have hW' := hW
  obtain ⟨p, q, hA0, hV, -, -, -⟩ := hW
  have hA : DataW.TrodAll enc Tryz.prog W 0 (fun _ => true) true Tryz.f3.params.toList args.toList ds p := hA0
  rw [Tryz.params3] at hA hval hsz1
  obtain ⟨rfl, rfl⟩ := trodVars_none hV
  obtain ⟨v0, vs0, d0, ds0, p0, q0, ha0, hd0, -, t0, hA⟩ := trodAll_cons hA
  obtain ⟨v1, vs1, d1, ds1, p1, q1, ha1, hd1, -, t1, hA⟩ := trodAll_cons hA
  obtain ⟨v2, vs2, d2, ds2, p2, q2, ha2, hd2, -, t2, hA⟩ := trodAll_cons hA
  obtain ⟨v3, vs3, d3, ds3, p3, q3, ha3, hd3, -, t3, hA⟩ := trodAll_cons hA
  obtain ⟨v4, vs4, d4, ds4, p4, q4, ha4, hd4, -, t4, hA⟩ := trodAll_cons hA
  obtain ⟨hvs, hds, -⟩ := trodAll_nil hA
  have hargs : args = #[v0, v1, v2, v3, v4] := by
    have : args.toList = [v0, v1, v2, v3, v4] := by rw [ha0, ha1, ha2, ha3, ha4, hvs]
    cases args; simp only at this; rw [this]
  subst hargs
  have hds0 : ds = [d0, d1, d2, d3, d4] := by rw [hd0, hd1, hd2, hd3, hd4, hds]
  subst hds0
  have hsz2 : (DataW.weightsEach Tryz.prog [25, 26, 3, 9, 9] [d0, d1, d2, d3, d4]).all (· ≤ reachBytes) = true := hsz1
  have hw0 : ∀ n ∈ d0.weights Tryz.prog 25, n ≤ reachBytes := fun n hn => by simpa using List.all_eq_true.1 hsz2 n (DataW.weights_mem_each (ts := [25, 26, 3, 9, 9]) (ds := [d0, d1, d2, d3, d4]) (j := 0) (t := 25) (d := d0) rfl rfl n hn)
  obtain ⟨x0, r0, wf0⟩ := open_arg op_25 t0 hw0
  obtain ⟨cs0, rfl, -⟩ := okWide_struct Tryz.underlying25 (hval 0 25 _ rfl rfl)
  obtain ⟨A0_1, c0_1, A0_2, c0_2, r0, h0_1, h0_2⟩ := r0
  have e0 := agg_of_cells r0
  rw [e0]
  have hw1 : ∀ n ∈ d1.weights Tryz.prog 26, n ≤ reachBytes := fun n hn => by simpa using List.all_eq_true.1 hsz2 n (DataW.weights_mem_each (ts := [25, 26, 3, 9, 9]) (ds := [d0, d1, d2, d3, d4]) (j := 1) (t := 26) (d := d1) rfl rfl n hn)
  obtain ⟨x1, r1, wf1⟩ := open_arg op_26 t1 hw1
  obtain ⟨a1, n1, k1, rfl⟩ := okWide_slice Tryz.underlying26 (hval 1 26 _ rfl rfl)
  obtain ⟨A1, c1, r1, h1⟩ := r1
  have e1 := one_of_cells (v := .slice a1 n1 k1) rfl r1
  rw [e1]
  have hw2 : ∀ n ∈ d2.weights Tryz.prog 3, n ≤ reachBytes := fun n hn => by simpa using List.all_eq_true.1 hsz2 n (DataW.weights_mem_each (ts := [25, 26, 3, 9, 9]) (ds := [d0, d1, d2, d3, d4]) (j := 2) (t := 3) (d := d2) rfl rfl n hn)
  obtain ⟨x2, r2, wf2⟩ := open_arg op_3 t2 hw2
  obtain ⟨n2, rfl⟩ := okWide_int Tryz.underlying3 (hval 2 3 _ rfl rfl)
  have e2 := one_of_cells (v := .int .i64 n2) rfl r2
  rw [e2]
  have hw3 : ∀ n ∈ d3.weights Tryz.prog 9, n ≤ reachBytes := fun n hn => by simpa using List.all_eq_true.1 hsz2 n (DataW.weights_mem_each (ts := [25, 26, 3, 9, 9]) (ds := [d0, d1, d2, d3, d4]) (j := 3) (t := 9) (d := d3) rfl rfl n hn)
  obtain ⟨x3, r3, wf3⟩ := open_arg op_9 t3 hw3
  obtain ⟨n3, rfl⟩ := okWide_string Tryz.underlying9 (hval 3 9 _ rfl rfl)
  have e3 := one_of_cells (v := .string n3) rfl r3
  rw [e3]
  have hw4 : ∀ n ∈ d4.weights Tryz.prog 9, n ≤ reachBytes := fun n hn => by simpa using List.all_eq_true.1 hsz2 n (DataW.weights_mem_each (ts := [25, 26, 3, 9, 9]) (ds := [d0, d1, d2, d3, d4]) (j := 4) (t := 9) (d := d4) rfl rfl n hn)
  obtain ⟨x4, r4, wf4⟩ := open_arg op_9 t4 hw4
  obtain ⟨n4, rfl⟩ := okWide_string Tryz.underlying9 (hval 4 9 _ rfl rfl)
  have e4 := one_of_cells (v := .string n4) rfl r4
  rw [e4]
  refine Cal.mono (R := fun v w' => v = .bool (l_FnExactScanRange x0 x1 x2 x3 x4) ∧ Ex W w') (c_l_FnExactScanRange x0 x1 x2 x3 x4 (RdS.up h0_1 good_Str) (RdS.up h0_2 good_Idx) (RdS.up h1 good_Write) wf0 wf1 wf2 wf3 wf4) ?_
  rintro v W' ⟨rfl, he⟩
  rw [true_ScanRange x0 x1 x2 x3 x4 wf0 wf1 wf2 wf3 wf4, ← e0, ← e1, ← e2, ← e3, ← e4]
  exact law_post laid (by kernel_rfl) rfl rfl Tryz.underlying4 (fun _ => rfl) hW' he
theorem row_holds : Rows.FnExactScanRangeSaid :=
  OpenClaim.holds_of_wide 3 Tryz.f3 rfl rfl rfl rfl rfl rfl rfl ⟨rfl, rfl, rfl, rfl, rfl⟩ rfl rfl rfl rfl rfl (by kernel_rfl) Tryz.func3 (by kernel_rfl)
    (of_decide_eq_true (by kernel_rfl)) (by unfold Func.isWrapper; first | (rw [if_pos (by decide +kernel)]; kernel_rfl) | (rw [if_neg (by decide +kernel)]; exact ⟨rfl, rfl⟩))
    (fun os started H enc _ => lifted os started H enc)
theorem proved : Rows.FnExactScanRangeCardSaid :=
  Claim7.holds_tied_plain_at .later [] [.data, .pinned] true (true, "3aa597528af5896c4e3f3790a5fdfcef0d4f85f917c8093c8d993ee394bbc820") false row_holds (fun _ h => by cases h) (by kernel_rfl) (fun _ h => by cases h) fnExactScanRange_row_tie rfl ⟨rfl, rfl⟩ (by kernel_rfl) rfl
    (fun f fn hf hfn => by
      obtain rfl : f = 3 := Option.some.inj ((show Tryz.prog.funcNamed "loop.example/g00850/laws.FnExactScanRange" = some 3 by kernel_rfl).symm.trans hf) |>.symm
      obtain rfl : fn = Tryz.f3 := (Option.some.inj (Tryz.func3.symm.trans hfn)).symm
      exact ⟨by kernel_rfl, fun j t ht => by
        rw [Tryz.params3] at ht
        have hm : t ∈ [25, 26, 3, 9, 9] := by simpa using Array.mem_of_getElem? ht
        have hall : ([25, 26, 3, 9, 9].all fun u => !Tryz.prog.wantsStandIn u) = true := by kernel_rfl
        exact (show Tryz.prog.wantsStandIn t = false by simpa using List.all_eq_true.1 hall t hm)⟩)
    (by kernel_rfl)
end Go.Proofs.YtdhfokkkpcelpaaGreatDoor.lawScanRange
