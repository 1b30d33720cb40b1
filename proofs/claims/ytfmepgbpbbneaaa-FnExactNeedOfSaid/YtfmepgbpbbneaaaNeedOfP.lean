/- laws.FnExactNeedOf returns true, whatever its arguments are, and leaves what its arguments read as they were. Conditions: those of the given statement, and no more. -/
import Derived.Test.YtfmepgbpbbneaaaRows
import Derived.Test.YtfmepgbpbbneaaaChecked
import Derived.Test.YtfmepgbpbbneaaaNeedOfC4
set_option linter.unusedVariables false
set_option linter.unusedSimpArgs false
namespace Go.Proofs.Ytfmepgbpbbneaaa.lawNeedOf
open Go.ChangeShapes Go.WideShapes Go.RowKit Go.X Go.Proofs.Ytfmepgbpbbneaaa
theorem own : ownKnob Try.prog.godebug = none := by kernel_rfl
theorem laid : laidOutB Try.prog = true := by kernel_rfl
theorem op_9 : Opens Try.prog 9 (RF e_Str) wfS := opens_string Try.underlying9
theorem op_45 : Opens Try.prog 45 (RL (RF e_Str) 1) (wfL wfS) := opens_slice (by_ := 16) Try.underlying45 (by kernel_rfl) (by kernel_rfl) rfl (Nat.le_of_ble_eq_true rfl) op_9
theorem op_3 : Opens Try.prog 3 (RF e_Int) wfI := opens_int Try.underlying3
theorem op_174 : Opens Try.prog 174 (RF e_Idx) wf_Idx := by
  intro H enc w base spare held fuel cs x h hw
  obtain ⟨xs, n, -, hx, hl, hn, hf⟩ := DataW.trod_struct Try.underlying174 h
  subst hx
  have hl0 : cs.length = 3 := hl.trans (by kernel_rfl)
  obtain ⟨y0, r0, w0⟩ := opens_field op_9 Try.underlying174 hw hn hf 0 (o := 0) (n := 1) rfl rfl rfl (by kernel_rfl)
  obtain ⟨y1, r1, w1⟩ := opens_field op_3 Try.underlying174 hw hn hf 1 (o := 1) (n := 1) rfl rfl rfl (by kernel_rfl)
  obtain ⟨y2, r2, w2⟩ := opens_field op_3 Try.underlying174 hw hn hf 2 (o := 2) (n := 1) rfl rfl rfl (by kernel_rfl)
  exact ⟨⟨y0, y1, y2⟩, asm r0 (asm r1 (asm r2 (asm_end hl0))), ⟨w0, w1, w2⟩⟩
theorem op_46 : Opens Try.prog 46 (RL (RF e_Idx) 3) (wfL wf_Idx) := opens_slice (by_ := 32) Try.underlying46 (by kernel_rfl) (by kernel_rfl) rfl (Nat.le_of_ble_eq_true rfl) op_174
theorem op_48 : Opens Try.prog 48 R_Table wf_Table := by
  intro H enc w base spare held fuel cs x h hw
  obtain ⟨xs, n, -, hx, hl, hn, hf⟩ := DataW.trod_struct Try.underlying48 h
  subst hx
  have hl0 : cs.length = 3 := hl.trans (by kernel_rfl)
  obtain ⟨y0, r0, w0⟩ := opens_field op_9 Try.underlying48 hw hn hf 0 (o := 0) (n := 1) rfl rfl rfl (by kernel_rfl)
  obtain ⟨y1, r1, w1⟩ := opens_field op_45 Try.underlying48 hw hn hf 1 (o := 1) (n := 1) rfl rfl rfl (by kernel_rfl)
  obtain ⟨y2, r2, w2⟩ := opens_field op_46 Try.underlying48 hw hn hf 2 (o := 2) (n := 1) rfl rfl rfl (by kernel_rfl)
  obtain ⟨A1, c1, r1, h1⟩ := r1
  obtain ⟨A2, c2, r2, h2⟩ := r2
  exact ⟨⟨y0, y1, y2⟩, ⟨A1, c1, A2, c2, asm r0 (asm r1 (asm r2 (asm_end hl0))), h1, h2⟩, ⟨w0, w1, w2⟩⟩
theorem op_80 : Opens Try.prog 80 (RL R_Table 3) (wfL wf_Table) := opens_slice (by_ := 64) Try.underlying80 (by kernel_rfl) (by kernel_rfl) rfl (Nat.le_of_ble_eq_true rfl) op_48
theorem op_81 : Opens Try.prog 81 (RL (RF e_Int) 1) (wfL wfI) := opens_slice (by_ := 8) Try.underlying81 (by kernel_rfl) (by kernel_rfl) rfl (Nat.le_of_ble_eq_true rfl) op_3
theorem op_4 : Opens Try.prog 4 (RF e_Bool) wfT := opens_bool Try.underlying4
theorem op_149 : Opens Try.prog 149 (RF e_Write) wf_Write := by
  intro H enc w base spare held fuel cs x h hw
  obtain ⟨xs, n, -, hx, hl, hn, hf⟩ := DataW.trod_struct Try.underlying149 h
  subst hx
  have hl0 : cs.length = 3 := hl.trans (by kernel_rfl)
  obtain ⟨y0, r0, w0⟩ := opens_field op_9 Try.underlying149 hw hn hf 0 (o := 0) (n := 1) rfl rfl rfl (by kernel_rfl)
  obtain ⟨y1, r1, w1⟩ := opens_field op_9 Try.underlying149 hw hn hf 1 (o := 1) (n := 1) rfl rfl rfl (by kernel_rfl)
  obtain ⟨y2, r2, w2⟩ := opens_field op_4 Try.underlying149 hw hn hf 2 (o := 2) (n := 1) rfl rfl rfl (by kernel_rfl)
  exact ⟨⟨y0, y1, y2⟩, asm r0 (asm r1 (asm r2 (asm_end hl0))), ⟨w0, w1⟩⟩
theorem op_82 : Opens Try.prog 82 (RL (RF e_Write) 3) (wfL wf_Write) := opens_slice (by_ := 40) Try.underlying82 (by kernel_rfl) (by kernel_rfl) rfl (Nat.le_of_ble_eq_true rfl) op_149
theorem op_84 : Opens Try.prog 84 R_Shift wf_Shift := by
  intro H enc w base spare held fuel cs x h hw
  obtain ⟨xs, n, -, hx, hl, hn, hf⟩ := DataW.trod_struct Try.underlying84 h
  subst hx
  have hl0 : cs.length = 4 := hl.trans (by kernel_rfl)
  obtain ⟨y0, r0, w0⟩ := opens_field op_9 Try.underlying84 hw hn hf 0 (o := 0) (n := 1) rfl rfl rfl (by kernel_rfl)
  obtain ⟨y1, r1, w1⟩ := opens_field op_80 Try.underlying84 hw hn hf 1 (o := 1) (n := 1) rfl rfl rfl (by kernel_rfl)
  obtain ⟨y2, r2, w2⟩ := opens_field op_81 Try.underlying84 hw hn hf 2 (o := 2) (n := 1) rfl rfl rfl (by kernel_rfl)
  obtain ⟨y3, r3, w3⟩ := opens_field op_82 Try.underlying84 hw hn hf 3 (o := 3) (n := 1) rfl rfl rfl (by kernel_rfl)
  obtain ⟨A1, c1, r1, h1⟩ := r1
  obtain ⟨A2, c2, r2, h2⟩ := r2
  obtain ⟨A3, c3, r3, h3⟩ := r3
  exact ⟨⟨y0, y1, y2, y3⟩, ⟨A1, c1, A2, c2, A3, c3, asm r0 (asm r1 (asm r2 (asm r3 (asm_end hl0)))), h1, h2, h3⟩, ⟨w0, w1, w2, w3⟩⟩
set_option maxRecDepth 100000 in
set_option maxHeartbeats 2000000 in
theorem lifted (os : Os) (started : os.Started) (H : Type) (enc : TypeId × Value → H) :
    ReturnsInHanded {} Try.checked os 8 .any (Rows.fnExactNeedOfSpec.pre6 enc Try.prog Try.f8 Rows.fnExactNeedOfRow.domain false) (Rows.fnExactNeedOfSpec.post enc Try.prog Try.f8 false true false false) := by
  refine returnsInHanded_of_change_sized (C := Try.checked) own started (by kernel_rfl) Try.func8
    (ChangeSpec.witness6 (enc := enc) (C := Try.checked) false ⟨#[], #[.agg #[.string ByteArray.empty, .slice none 0 0, .slice none 0 0, .slice none 0 0]], []⟩ 8 (by kernel_rfl) (by kernel_rfl) (by kernel_rfl) (by kernel_rfl)) ?_
  intro W base args ds gs before hval0 hW _ hsz0 _
  have hval : ∀ (j : Nat) t v, Try.f8.params[j]? = some t → args[j]? = some v → Value.okWide Try.prog W .any base t v := hval0
  have hsz1 : (DataW.weightsEach Try.prog (Try.f8.params.toList ++ Rows.fnExactNeedOfSpec.plain.varTypes Try.prog) (ds ++ gs)).all (· ≤ reachBytes) = true := hsz0
  have hW' := hW
  obtain ⟨p, q, hA0, hV, -, -, -⟩ := hW
  have hA : DataW.TrodAll enc Try.prog W 0 (fun _ => true) true Try.f8.params.toList args.toList ds p := hA0
  rw [Try.params8] at hA hval hsz1
  obtain ⟨rfl, rfl⟩ := trodVars_none hV
  obtain ⟨v0, vs0, d0, ds0, p0, q0, ha0, hd0, -, t0, hA⟩ := trodAll_cons hA
  obtain ⟨hvs, hds, -⟩ := trodAll_nil hA
  have hargs : args = #[v0] := by
    have : args.toList = [v0] := by rw [ha0, hvs]
    cases args; simp only at this; rw [this]
  subst hargs
  have hds0 : ds = [d0] := by rw [hd0, hds]
  subst hds0
  have hsz2 : (DataW.weightsEach Try.prog [84] [d0]).all (· ≤ reachBytes) = true := hsz1
  have hw0 : ∀ n ∈ d0.weights Try.prog 84, n ≤ reachBytes := fun n hn => by simpa using List.all_eq_true.1 hsz2 n (DataW.weights_mem_each (ts := [84]) (ds := [d0]) (j := 0) (t := 84) (d := d0) rfl rfl n hn)
  obtain ⟨x0, r0, wf0⟩ := open_arg op_84 t0 hw0
  obtain ⟨cs0, rfl, -⟩ := okWide_struct Try.underlying84 (hval 0 84 _ rfl rfl)
  obtain ⟨A0_1, c0_1, A0_2, c0_2, A0_3, c0_3, r0, h0_1, h0_2, h0_3⟩ := r0
  have e0 := agg_of_cells r0
  rw [e0]
  refine Cal.mono (R := fun v w' => v = .bool (l_FnExactNeedOf x0) ∧ Ex W w') (c_l_FnExactNeedOf x0 (RdS.up h0_1 good_Table) (RdS.up h0_2 good_Int) (RdS.up h0_3 good_Write) wf0) ?_
  rintro v W' ⟨rfl, he⟩
  rw [true_NeedOf x0 wf0, ← e0]
  exact law_post laid (by kernel_rfl) rfl rfl Try.underlying4 (fun _ => rfl) hW' he
theorem proved : Rows.FnExactNeedOfSaid :=
  OpenClaim.holds_of_wide 8 Try.f8 rfl rfl rfl rfl rfl rfl rfl ⟨rfl, rfl, rfl, rfl, rfl⟩ rfl rfl rfl rfl rfl (by kernel_rfl) Try.func8 (by kernel_rfl)
    (of_decide_eq_true (by kernel_rfl)) (by unfold Func.isWrapper; first | (rw [if_pos (by decide +kernel)]; kernel_rfl) | (rw [if_neg (by decide +kernel)]; exact ⟨rfl, rfl⟩))
    (fun os started H enc _ => lifted os started H enc)
end Go.Proofs.Ytfmepgbpbbneaaa.lawNeedOf
