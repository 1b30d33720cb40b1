/- laws.FnExactIsFilled returns true, whatever its arguments are, and leaves what its arguments read as they were. Conditions: those of the given statement, and no more. -/
import Derived.Test.YtdbobbmagmcpnaaGreatDoorRows
import Derived.Test.YtdbobbmagmcpnaaGreatDoorChecked
import Derived.Test.YtdbobbmagmcpnaaGreatDoorCards
import Derived.Test.YtdbobbmagmcpnaaGreatDoorTie
import Derived.MakeChecks
import Derived.Lay
import Derived.LaidOnce
import Derived.SevenTiedAt
import Derived.Test.YtdbobbmagmcpnaaGreatDoorIsFilledC4
set_option linter.unusedVariables false
set_option linter.unusedSimpArgs false
namespace Go.Proofs.YtdbobbmagmcpnaaGreatDoor.lawIsFilled
open Go.ChangeShapes Go.WideShapes Go.ChangeAt Go.RowKit Go.X Go.Proofs.YtdbobbmagmcpnaaGreatDoor
theorem own : ownKnob Tryz.prog.godebug = none := by kernel_rfl
theorem laid : laidOutB Tryz.prog = true := by kernel_rfl
theorem op_9 : Opens Tryz.prog 9 (RF e_Str) wfS := opens_string Tryz.underlying9
theorem op_22 : Opens Tryz.prog 22 (RL (RF e_Str) 1) (wfL wfS) := opens_slice (by_ := 16) Tryz.underlying22 (by kernel_rfl) (by kernel_rfl) rfl (Nat.le_of_ble_eq_true rfl) op_9
theorem op_3 : Opens Tryz.prog 3 (RF e_Int) wfI := opens_int Tryz.underlying3
theorem op_101 : Opens Tryz.prog 101 (RF e_Idx) wf_Idx := by
  intro H enc w base spare held fuel cs x h hw
  obtain ⟨xs, n, -, hx, hl, hn, hf⟩ := DataW.trod_struct Tryz.underlying101 h
  subst hx
  have hl0 : cs.length = 3 := hl.trans (by kernel_rfl)
  obtain ⟨y0, r0, w0⟩ := opens_field op_9 Tryz.underlying101 hw hn hf 0 (o := 0) (n := 1) rfl rfl rfl (by kernel_rfl)
  obtain ⟨y1, r1, w1⟩ := opens_field op_3 Tryz.underlying101 hw hn hf 1 (o := 1) (n := 1) rfl rfl rfl (by kernel_rfl)
  obtain ⟨y2, r2, w2⟩ := opens_field op_3 Tryz.underlying101 hw hn hf 2 (o := 2) (n := 1) rfl rfl rfl (by kernel_rfl)
  exact ⟨⟨y0, y1, y2⟩, asm r0 (asm r1 (asm r2 (asm_end hl0))), ⟨w0, w1, w2⟩⟩
theorem op_23 : Opens Tryz.prog 23 (RL (RF e_Idx) 3) (wfL wf_Idx) := opens_slice (by_ := 32) Tryz.underlying23 (by kernel_rfl) (by kernel_rfl) rfl (Nat.le_of_ble_eq_true rfl) op_101
theorem op_25 : Opens Tryz.prog 25 R_Table wf_Table := by
  intro H enc w base spare held fuel cs x h hw
  obtain ⟨xs, n, -, hx, hl, hn, hf⟩ := DataW.trod_struct Tryz.underlying25 h
  subst hx
  have hl0 : cs.length = 3 := hl.trans (by kernel_rfl)
  obtain ⟨y0, r0, w0⟩ := opens_field op_9 Tryz.underlying25 hw hn hf 0 (o := 0) (n := 1) rfl rfl rfl (by kernel_rfl)
  obtain ⟨y1, r1, w1⟩ := opens_field op_22 Tryz.underlying25 hw hn hf 1 (o := 1) (n := 1) rfl rfl rfl (by kernel_rfl)
  obtain ⟨y2, r2, w2⟩ := opens_field op_23 Tryz.underlying25 hw hn hf 2 (o := 2) (n := 1) rfl rfl rfl (by kernel_rfl)
  obtain ⟨A1, c1, r1, h1⟩ := r1
  obtain ⟨A2, c2, r2, h2⟩ := r2
  exact ⟨⟨y0, y1, y2⟩, ⟨A1, c1, A2, c2, asm r0 (asm r1 (asm r2 (asm_end hl0))), h1, h2⟩, ⟨w0, w1, w2⟩⟩
theorem op_45 : Opens Tryz.prog 45 (RL R_Table 3) (wfL wf_Table) := opens_slice (by_ := 64) Tryz.underlying45 (by kernel_rfl) (by kernel_rfl) rfl (Nat.le_of_ble_eq_true rfl) op_25
theorem op_46 : Opens Tryz.prog 46 (RL (RF e_Int) 1) (wfL wfI) := opens_slice (by_ := 8) Tryz.underlying46 (by kernel_rfl) (by kernel_rfl) rfl (Nat.le_of_ble_eq_true rfl) op_3
theorem op_4 : Opens Tryz.prog 4 (RF e_Bool) wfT := opens_bool Tryz.underlying4
theorem op_69 : Opens Tryz.prog 69 (RF e_Write) wf_Write := by
  intro H enc w base spare held fuel cs x h hw
  obtain ⟨xs, n, -, hx, hl, hn, hf⟩ := DataW.trod_struct Tryz.underlying69 h
  subst hx
  have hl0 : cs.length = 3 := hl.trans (by kernel_rfl)
  obtain ⟨y0, r0, w0⟩ := opens_field op_9 Tryz.underlying69 hw hn hf 0 (o := 0) (n := 1) rfl rfl rfl (by kernel_rfl)
  obtain ⟨y1, r1, w1⟩ := opens_field op_9 Tryz.underlying69 hw hn hf 1 (o := 1) (n := 1) rfl rfl rfl (by kernel_rfl)
  obtain ⟨y2, r2, w2⟩ := opens_field op_4 Tryz.underlying69 hw hn hf 2 (o := 2) (n := 1) rfl rfl rfl (by kernel_rfl)
  exact ⟨⟨y0, y1, y2⟩, asm r0 (asm r1 (asm r2 (asm_end hl0))), ⟨w0, w1⟩⟩
theorem op_26 : Opens Tryz.prog 26 (RL (RF e_Write) 3) (wfL wf_Write) := opens_slice (by_ := 40) Tryz.underlying26 (by kernel_rfl) (by kernel_rfl) rfl (Nat.le_of_ble_eq_true rfl) op_69
theorem op_48 : Opens Tryz.prog 48 R_Shift wf_Shift := by
  intro H enc w base spare held fuel cs x h hw
  obtain ⟨xs, n, -, hx, hl, hn, hf⟩ := DataW.trod_struct Tryz.underlying48 h
  subst hx
  have hl0 : cs.length = 4 := hl.trans (by kernel_rfl)
  obtain ⟨y0, r0, w0⟩ := opens_field op_9 Tryz.underlying48 hw hn hf 0 (o := 0) (n := 1) rfl rfl rfl (by kernel_rfl)
  obtain ⟨y1, r1, w1⟩ := opens_field op_45 Tryz.underlying48 hw hn hf 1 (o := 1) (n := 1) rfl rfl rfl (by kernel_rfl)
  obtain ⟨y2, r2, w2⟩ := opens_field op_46 Tryz.underlying48 hw hn hf 2 (o := 2) (n := 1) rfl rfl rfl (by kernel_rfl)
  obtain ⟨y3, r3, w3⟩ := opens_field op_26 Tryz.underlying48 hw hn hf 3 (o := 3) (n := 1) rfl rfl rfl (by kernel_rfl)
  obtain ⟨A1, c1, r1, h1⟩ := r1
  obtain ⟨A2, c2, r2, h2⟩ := r2
  obtain ⟨A3, c3, r3, h3⟩ := r3
  exact ⟨⟨y0, y1, y2, y3⟩, ⟨A1, c1, A2, c2, A3, c3, asm r0 (asm r1 (asm r2 (asm r3 (asm_end hl0)))), h1, h2, h3⟩, ⟨w0, w1, w2, w3⟩⟩
theorem op_50 : Opens Tryz.prog 50 (RF e_Fill) wf_Fill := by
  intro H enc w base spare held fuel cs x h hw
  obtain ⟨xs, n, -, hx, hl, hn, hf⟩ := DataW.trod_struct Tryz.underlying50 h
  subst hx
  have hl0 : cs.length = 2 := hl.trans (by kernel_rfl)
  obtain ⟨y0, r0, w0⟩ := opens_field op_9 Tryz.underlying50 hw hn hf 0 (o := 0) (n := 1) rfl rfl rfl (by kernel_rfl)
  obtain ⟨y1, r1, w1⟩ := opens_field op_4 Tryz.underlying50 hw hn hf 1 (o := 1) (n := 1) rfl rfl rfl (by kernel_rfl)
  exact ⟨⟨y0, y1⟩, asm r0 (asm r1 (asm_end hl0)), w0⟩
theorem op_52 : Opens Tryz.prog 52 R_Work wf_Work := by
  intro H enc w base spare held fuel cs x h hw
  obtain ⟨xs, n, -, hx, hl, hn, hf⟩ := DataW.trod_struct Tryz.underlying52 h
  subst hx
  have hl0 : cs.length = 8 := hl.trans (by kernel_rfl)
  obtain ⟨y0, r0, w0⟩ := opens_field op_48 Tryz.underlying52 hw hn hf 0 (o := 0) (n := 4) rfl rfl rfl (by kernel_rfl)
  obtain ⟨y1, r1, w1⟩ := opens_field op_50 Tryz.underlying52 hw hn hf 1 (o := 4) (n := 2) rfl rfl rfl (by kernel_rfl)
  obtain ⟨y2, r2, w2⟩ := opens_field op_50 Tryz.underlying52 hw hn hf 2 (o := 6) (n := 2) rfl rfl rfl (by kernel_rfl)
  obtain ⟨A0_1, c0_1, A0_2, c0_2, A0_3, c0_3, r0, h0_1, h0_2, h0_3⟩ := r0
  exact ⟨⟨y0, y1, y2⟩, ⟨A0_1, c0_1, A0_2, c0_2, A0_3, c0_3, asm r0 (asm r1 (asm r2 (asm_end hl0))), h0_1, h0_2, h0_3⟩, ⟨w0, w1, w2⟩⟩
set_option maxRecDepth 100000 in
set_option maxHeartbeats 2000000 in
theorem lifted (os : Os) (started : os.Started) (H : Type) (enc : TypeId × Value → H) :
    ReturnsInHanded {} Tryz.checked os 4 .any (fun w args => (Rows.fnExactIsFilledSpec.pre enc Tryz.prog Tryz.f4 [] false w args ∧ laidMetH Tryz.prog Rows.fnExactIsFilledRow.laid w) ∧ sizedMet enc Tryz.prog Tryz.f4 (OpenSpec.ofChange Rows.fnExactIsFilledSpec) false w args) (Rows.fnExactIsFilledSpec.post enc Tryz.prog Tryz.f4 false true false false) := by
  refine returnsInHanded_of_change_and (C := Tryz.checked) (X := fun w _ => laidMetH Tryz.prog Rows.fnExactIsFilledRow.laid w) (fun _ _ _ hh h => h.of_heap hh) own started (by kernel_rfl) Tryz.func4
    (ChangeSpec.witness_shaped (enc := enc) (C := Tryz.checked) (os := os) (X := fun w _ => laidMetH Tryz.prog Rows.fnExactIsFilledRow.laid w) false (World.laidAll Tryz.prog os Rows.fnExactIsFilledRow.laid) #[.agg #[.string ByteArray.empty, .slice none 0 0, .slice none 0 0, .slice none 0 0, .string ByteArray.empty, .bool (false), .string ByteArray.empty, .bool (false)]] 8 (World.laidAll_os _ _ _)
      (World.shaped_of_ZipB (by kernel_rfl) (by kernel_rfl)) (by kernel_rfl) (by kernel_rfl) (by kernel_rfl)
      (by rw [MakeChecks.laidMetH_plain _ _ _ (by kernel_rfl)]; exact laidMet_laidAll _ (by kernel_rfl) (by kernel_rfl))) ?_
  intro W base args ds gs before hval0 hW _ hsz0 _ _
  have hval : ∀ (j : Nat) t v, Tryz.f4.params[j]? = some t → args[j]? = some v → Value.okWide Tryz.prog W .any base t v := hval0
  have hsz1 : (DataW.weightsEach Tryz.prog (Tryz.f4.params.toList ++ Rows.fnExactIsFilledSpec.plain.varTypes Tryz.prog) (ds ++ gs)).all (· ≤ reachBytes) = true := hsz0
  have hW' := hW
  obtain ⟨p, q, hA0, hV, -, -, -⟩ := hW
  have hA : DataW.TrodAll enc Tryz.prog W 0 (fun _ => true) true Tryz.f4.params.toList args.toList ds p := hA0
  rw [Tryz.params4] at hA hval hsz1
  obtain ⟨rfl, rfl⟩ := trodVars_none hV
  obtain ⟨v0, vs0, d0, ds0, p0, q0, ha0, hd0, -, t0, hA⟩ := trodAll_cons hA
  obtain ⟨hvs, hds, -⟩ := trodAll_nil hA
  have hargs : args = #[v0] := by
    have : args.toList = [v0] := by rw [ha0, hvs]
    cases args; simp only at this; rw [this]
  subst hargs
  have hds0 : ds = [d0] := by rw [hd0, hds]
  subst hds0
  have hsz2 : (DataW.weightsEach Tryz.prog [52] [d0]).all (· ≤ reachBytes) = true := hsz1
  have hw0 : ∀ n ∈ d0.weights Tryz.prog 52, n ≤ reachBytes := fun n hn => by simpa using List.all_eq_true.1 hsz2 n (DataW.weights_mem_each (ts := [52]) (ds := [d0]) (j := 0) (t := 52) (d := d0) rfl rfl n hn)
  obtain ⟨x0, r0, wf0⟩ := open_arg op_52 t0 hw0
  obtain ⟨cs0, rfl, -⟩ := okWide_struct Tryz.underlying52 (hval 0 52 _ rfl rfl)
  obtain ⟨A0_1, c0_1, A0_2, c0_2, A0_3, c0_3, r0, h0_1, h0_2, h0_3⟩ := r0
  have e0 := agg_of_cells r0
  rw [e0]
  refine Cal.mono (R := fun v w' => v = .bool (l_FnExactIsFilled x0) ∧ Ex W w') (c_l_FnExactIsFilled x0 (RdS.up h0_1 good_Table) (RdS.up h0_2 good_Int) (RdS.up h0_3 good_Write) wf0) ?_
  rintro v W' ⟨rfl, he⟩
  rw [true_IsFilled x0 wf0, ← e0]
  exact law_post laid (by kernel_rfl) rfl rfl Tryz.underlying4 (fun _ => rfl) hW' he
theorem row_holds : Rows.FnExactIsFilledSaid :=
  OpenClaim.holds_of_wide 4 Tryz.f4 rfl rfl rfl rfl rfl rfl rfl ⟨rfl, rfl, rfl, rfl, rfl⟩ rfl rfl rfl rfl rfl (by kernel_rfl) Tryz.func4 (by kernel_rfl)
    (of_decide_eq_true (by kernel_rfl)) (by unfold Func.isWrapper; first | (rw [if_pos (by decide +kernel)]; kernel_rfl) | (rw [if_neg (by decide +kernel)]; exact ⟨rfl, rfl⟩))
    (fun os started H enc _ => lifted os started H enc)
theorem proved : Rows.FnExactIsFilledCardSaid :=
  Claim7.holds_tied_plain_at .later [] [.data, .pinned] true (true, "60269fc0c9af726ffb26b5bdcc19ded22927687ddc616b762dde8c0f64862212") false row_holds (fun _ h => by cases h) (by kernel_rfl) (fun _ h => by cases h) fnExactIsFilled_row_tie rfl ⟨rfl, rfl⟩ (by kernel_rfl) rfl
    (fun f fn hf hfn => by
      obtain rfl : f = 4 := Option.some.inj ((show Tryz.prog.funcNamed "loop.example/g00850/laws.FnExactIsFilled" = some 4 by kernel_rfl).symm.trans hf) |>.symm
      obtain rfl : fn = Tryz.f4 := (Option.some.inj (Tryz.func4.symm.trans hfn)).symm
      exact ⟨by kernel_rfl, fun j t ht => by
        rw [Tryz.params4] at ht
        have hm : t ∈ [52] := by simpa using Array.mem_of_getElem? ht
        have hall : ([52].all fun u => !Tryz.prog.wantsStandIn u) = true := by kernel_rfl
        exact (show Tryz.prog.wantsStandIn t = false by simpa using List.all_eq_true.1 hall t hm)⟩)
    (by kernel_rfl)
end Go.Proofs.YtdbobbmagmcpnaaGreatDoor.lawIsFilled
