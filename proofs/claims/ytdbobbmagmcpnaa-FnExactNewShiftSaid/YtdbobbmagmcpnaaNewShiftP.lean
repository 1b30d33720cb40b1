/- laws.FnExactNewShift returns true, whatever its arguments are, and leaves what its arguments read as they were. Conditions: those of the given statement, and no more. -/
import Derived.Test.YtdbobbmagmcpnaaRows
import Derived.Test.YtdbobbmagmcpnaaChecked
import Derived.Test.YtdbobbmagmcpnaaNewShiftC3
set_option linter.unusedVariables false
set_option linter.unusedSimpArgs false
namespace Go.Proofs.Ytdbobbmagmcpnaa.lawNewShift
open Go.ChangeShapes Go.WideShapes Go.RowKit Go.X Go.Proofs.Ytdbobbmagmcpnaa
theorem own : ownKnob Try.prog.godebug = none := by kernel_rfl
theorem laid : laidOutB Try.prog = true := by kernel_rfl
theorem op_9 : Opens Try.prog 9 (RF e_Str) wfS := opens_string Try.underlying9
theorem op_22 : Opens Try.prog 22 (RL (RF e_Str) 1) (wfL wfS) := opens_slice (by_ := 16) Try.underlying22 (by kernel_rfl) (by kernel_rfl) rfl (Nat.le_of_ble_eq_true rfl) op_9
theorem op_3 : Opens Try.prog 3 (RF e_Int) wfI := opens_int Try.underlying3
theorem op_168 : Opens Try.prog 168 (RF e_Idx) wf_Idx := by
  intro H enc w base spare held fuel cs x h hw
  obtain ⟨xs, n, -, hx, hl, hn, hf⟩ := DataW.trod_struct Try.underlying168 h
  subst hx
  have hl0 : cs.length = 3 := hl.trans (by kernel_rfl)
  obtain ⟨y0, r0, w0⟩ := opens_field op_9 Try.underlying168 hw hn hf 0 (o := 0) (n := 1) rfl rfl rfl (by kernel_rfl)
  obtain ⟨y1, r1, w1⟩ := opens_field op_3 Try.underlying168 hw hn hf 1 (o := 1) (n := 1) rfl rfl rfl (by kernel_rfl)
  obtain ⟨y2, r2, w2⟩ := opens_field op_3 Try.underlying168 hw hn hf 2 (o := 2) (n := 1) rfl rfl rfl (by kernel_rfl)
  exact ⟨⟨y0, y1, y2⟩, asm r0 (asm r1 (asm r2 (asm_end hl0))), ⟨w0, w1, w2⟩⟩
theorem op_23 : Opens Try.prog 23 (RL (RF e_Idx) 3) (wfL wf_Idx) := opens_slice (by_ := 32) Try.underlying23 (by kernel_rfl) (by kernel_rfl) rfl (Nat.le_of_ble_eq_true rfl) op_168
theorem op_25 : Opens Try.prog 25 R_Table wf_Table := by
  intro H enc w base spare held fuel cs x h hw
  obtain ⟨xs, n, -, hx, hl, hn, hf⟩ := DataW.trod_struct Try.underlying25 h
  subst hx
  have hl0 : cs.length = 3 := hl.trans (by kernel_rfl)
  obtain ⟨y0, r0, w0⟩ := opens_field op_9 Try.underlying25 hw hn hf 0 (o := 0) (n := 1) rfl rfl rfl (by kernel_rfl)
  obtain ⟨y1, r1, w1⟩ := opens_field op_22 Try.underlying25 hw hn hf 1 (o := 1) (n := 1) rfl rfl rfl (by kernel_rfl)
  obtain ⟨y2, r2, w2⟩ := opens_field op_23 Try.underlying25 hw hn hf 2 (o := 2) (n := 1) rfl rfl rfl (by kernel_rfl)
  obtain ⟨A1, c1, r1, h1⟩ := r1
  obtain ⟨A2, c2, r2, h2⟩ := r2
  exact ⟨⟨y0, y1, y2⟩, ⟨A1, c1, A2, c2, asm r0 (asm r1 (asm r2 (asm_end hl0))), h1, h2⟩, ⟨w0, w1, w2⟩⟩
theorem op_4 : Opens Try.prog 4 (RF e_Bool) wfT := opens_bool Try.underlying4
theorem op_111 : Opens Try.prog 111 (RF e_Write) wf_Write := by
  intro H enc w base spare held fuel cs x h hw
  obtain ⟨xs, n, -, hx, hl, hn, hf⟩ := DataW.trod_struct Try.underlying111 h
  subst hx
  have hl0 : cs.length = 3 := hl.trans (by kernel_rfl)
  obtain ⟨y0, r0, w0⟩ := opens_field op_9 Try.underlying111 hw hn hf 0 (o := 0) (n := 1) rfl rfl rfl (by kernel_rfl)
  obtain ⟨y1, r1, w1⟩ := opens_field op_9 Try.underlying111 hw hn hf 1 (o := 1) (n := 1) rfl rfl rfl (by kernel_rfl)
  obtain ⟨y2, r2, w2⟩ := opens_field op_4 Try.underlying111 hw hn hf 2 (o := 2) (n := 1) rfl rfl rfl (by kernel_rfl)
  exact ⟨⟨y0, y1, y2⟩, asm r0 (asm r1 (asm r2 (asm_end hl0))), ⟨w0, w1⟩⟩
theorem op_44 : Opens Try.prog 44 (RL (RF e_Write) 3) (wfL wf_Write) := opens_slice (by_ := 40) Try.underlying44 (by kernel_rfl) (by kernel_rfl) rfl (Nat.le_of_ble_eq_true rfl) op_111
set_option maxRecDepth 100000 in
set_option maxHeartbeats 2000000 in
theorem lifted (os : Os) (started : os.Started) (H : Type) (enc : TypeId × Value → H) :
    ReturnsInHanded {} Try.checked os 4 .any (Rows.fnExactNewShiftSpec.pre6 enc Try.prog Try.f4 Rows.fnExactNewShiftRow.domain false) (Rows.fnExactNewShiftSpec.post enc Try.prog Try.f4 false true false false) := by
  refine returnsInHanded_of_change_sized (C := Try.checked) own started (by kernel_rfl) Try.func4
    (ChangeSpec.witness6 (enc := enc) (C := Try.checked) false ⟨#[], #[.agg #[.string ByteArray.empty, .slice none 0 0, .slice none 0 0], .string ByteArray.empty, .int .i64 (0), .int .i64 (0), .slice none 0 0], []⟩ 8 (by kernel_rfl) (by kernel_rfl) (by kernel_rfl) (by kernel_rfl)) ?_
  intro W base args ds gs before hval0 hW _ hsz0 _
  have hval : ∀ (j : Nat) t v, Try.f4.params[j]? = some t → args[j]? = some v → Value.okWide Try.prog W .any base t v := hval0
  have hsz1 : (DataW.weightsEach Try.prog (Try.f4.params.toList ++ Rows.fnExactNewShiftSpec.plain.varTypes Try.prog) (ds ++ gs)).all (· ≤ reachBytes) = true := hsz0
  have hW' := hW
  obtain ⟨p, q, hA0, hV, -, -, -⟩ := hW
  have hA : DataW.TrodAll enc Try.prog W 0 (fun _ => true) true Try.f4.params.toList args.toList ds p := hA0
  rw [Try.params4] at hA hval hsz1
  obtain ⟨rfl, rfl⟩ := trodVars_none hV
  obtain ⟨v0, vs0, d0, ds0, p0, q0, ha0, hd0, -, t0, hA⟩ := trodAll_cons hA
  obtain ⟨v1, vs1, d1, ds1, p1, q1, ha1, hd1, -, t1, hA⟩ := trodAll_cons hA
  obtain ⟨v2, vs2, d2, ds2, p2, q2, ha2, hd2, -, t2, hA⟩ := trodAll_cons hA
  obtain ⟨v3, vs3, d3, ds3, p3, q3, ha3, hd3, -, t3, hA⟩ := trodAll_cons hA
  obtain ⟨v4, vs4, d4, ds4, p4, q4, ha4, hd4, -, t4, hA⟩ := trodAll_cons hA
  obtain ⟨hvs, hds, -⟩ := trodAll_nil hA
  have hargs : args = #[v0, v1, v2, v3, v4] := by
    have : args.toList = [v0, v1, v2, v3, v4] := by rw [ha0, ha1, ha2, ha3, ha4, hvs]
    cases args; simp only at this; rw [this]
  subst hargs
  have hds0 : ds = [d0, d1, d2, d3, d4] := by rw [hd0, hd1, hd2, hd3, hd4, hds]
  subst hds0
  have hsz2 : (DataW.weightsEach Try.prog [25, 9, 3, 3, 44] [d0, d1, d2, d3, d4]).all (· ≤ reachBytes) = true := hsz1
  have hw0 : ∀ n ∈ d0.weights Try.prog 25, n ≤ reachBytes := fun n hn => by simpa using List.all_eq_true.1 hsz2 n (DataW.weights_mem_each (ts := [25, 9, 3, 3, 44]) (ds := [d0, d1, d2, d3, d4]) (j := 0) (t := 25) (d := d0) rfl rfl n hn)
  obtain ⟨x0, r0, wf0⟩ := open_arg op_25 t0 hw0
  obtain ⟨cs0, rfl, -⟩ := okWide_struct Try.underlying25 (hval 0 25 _ rfl rfl)
  obtain ⟨A0_1, c0_1, A0_2, c0_2, r0, h0_1, h0_2⟩ := r0
  have e0 := agg_of_cells r0
  rw [e0]
  have hw1 : ∀ n ∈ d1.weights Try.prog 9, n ≤ reachBytes := fun n hn => by simpa using List.all_eq_true.1 hsz2 n (DataW.weights_mem_each (ts := [25, 9, 3, 3, 44]) (ds := [d0, d1, d2, d3, d4]) (j := 1) (t := 9) (d := d1) rfl rfl n hn)
  obtain ⟨x1, r1, wf1⟩ := open_arg op_9 t1 hw1
  obtain ⟨n1, rfl⟩ := okWide_string Try.underlying9 (hval 1 9 _ rfl rfl)
  have e1 := one_of_cells (v := .string n1) rfl r1
  rw [e1]
  have hw2 : ∀ n ∈ d2.weights Try.prog 3, n ≤ reachBytes := fun n hn => by simpa using List.all_eq_true.1 hsz2 n (DataW.weights_mem_each (ts := [25, 9, 3, 3, 44]) (ds := [d0, d1, d2, d3, d4]) (j := 2) (t := 3) (d := d2) rfl rfl n hn)
  obtain ⟨x2, r2, wf2⟩ := open_arg op_3 t2 hw2
  obtain ⟨n2, rfl⟩ := okWide_int Try.underlying3 (hval 2 3 _ rfl rfl)
  have e2 := one_of_cells (v := .int .i64 n2) rfl r2
  rw [e2]
  have hw3 : ∀ n ∈ d3.weights Try.prog 3, n ≤ reachBytes := fun n hn => by simpa using List.all_eq_true.1 hsz2 n (DataW.weights_mem_each (ts := [25, 9, 3, 3, 44]) (ds := [d0, d1, d2, d3, d4]) (j := 3) (t := 3) (d := d3) rfl rfl n hn)
  obtain ⟨x3, r3, wf3⟩ := open_arg op_3 t3 hw3
  obtain ⟨n3, rfl⟩ := okWide_int Try.underlying3 (hval 3 3 _ rfl rfl)
  have e3 := one_of_cells (v := .int .i64 n3) rfl r3
  rw [e3]
  have hw4 : ∀ n ∈ d4.weights Try.prog 44, n ≤ reachBytes := fun n hn => by simpa using List.all_eq_true.1 hsz2 n (DataW.weights_mem_each (ts := [25, 9, 3, 3, 44]) (ds := [d0, d1, d2, d3, d4]) (j := 4) (t := 44) (d := d4) rfl rfl n hn)
  obtain ⟨x4, r4, wf4⟩ := open_arg op_44 t4 hw4
  obtain ⟨a4, n4, k4, rfl⟩ := okWide_slice Try.underlying44 (hval 4 44 _ rfl rfl)
  obtain ⟨A4, c4, r4, h4⟩ := r4
  have e4 := one_of_cells (v := .slice a4 n4 k4) rfl r4
  rw [e4]
  refine Cal.mono (R := fun v w' => v = .bool (l_FnExactNewShift x0 x1 x2 x3 x4) ∧ Ex W w') (c_l_FnExactNewShift x0 x1 x2 x3 x4 (RdS.up h0_1 good_Str) (RdS.up h0_2 good_Idx) (RdS.up h4 good_Write) wf0 wf1 wf2 wf3 wf4) ?_
  rintro v W' ⟨rfl, he⟩
  rw [true_NewShift x0 x1 x2 x3 x4 wf0 wf1 wf2 wf3 wf4, ← e0, ← e1, ← e2, ← e3, ← e4]
  exact law_post laid (by kernel_rfl) rfl rfl Try.underlying4 (fun _ => rfl) hW' he
theorem proved : Rows.FnExactNewShiftSaid :=
  OpenClaim.holds_of_wide 4 Try.f4 rfl rfl rfl rfl rfl rfl rfl ⟨rfl, rfl, rfl, rfl, rfl⟩ rfl rfl rfl rfl rfl (by kernel_rfl) Try.func4 (by kernel_rfl)
    (of_decide_eq_true (by kernel_rfl)) (by unfold Func.isWrapper; first | (rw [if_pos (by decide +kernel)]; kernel_rfl) | (rw [if_neg (by decide +kernel)]; exact ⟨rfl, rfl⟩))
    (fun os started H enc _ => lifted os started H enc)
end Go.Proofs.Ytdbobbmagmcpnaa.lawNewShift
