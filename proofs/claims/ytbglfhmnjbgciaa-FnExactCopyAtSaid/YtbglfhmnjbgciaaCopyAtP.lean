/- laws.FnExactCopyAt returns true, whatever its arguments are, and leaves what its arguments read as they were. Conditions: those of the given statement, and no more. -/
import Derived.Test.YtbglfhmnjbgciaaRows
import Derived.Test.YtbglfhmnjbgciaaChecked
import Derived.Test.YtbglfhmnjbgciaaCopyAtC2
set_option linter.unusedVariables false
set_option linter.unusedSimpArgs false
namespace Go.Proofs.Ytbglfhmnjbgciaa.lawCopyAt
open Go.ChangeShapes Go.WideShapes Go.RowKit Go.X Go.Proofs.Ytbglfhmnjbgciaa
theorem own : ownKnob Try.prog.godebug = none := by kernel_rfl
theorem laid : laidOutB Try.prog = true := by kernel_rfl
theorem op_9 : Opens Try.prog 9 (RF e_Str) wfS := opens_string Try.underlying9
theorem op_3 : Opens Try.prog 3 (RF e_Int) wfI := opens_int Try.underlying3
theorem op_4 : Opens Try.prog 4 (RF e_Bool) wfT := opens_bool Try.underlying4
theorem op_70 : Opens Try.prog 70 (RF e_Ver) wf_Ver := by
  intro H enc w base spare held fuel cs x h hw
  obtain ⟨xs, n, -, hx, hl, hn, hf⟩ := DataW.trod_struct Try.underlying70 h
  subst hx
  have hl0 : cs.length = 3 := hl.trans (by kernel_rfl)
  obtain ⟨y0, r0, w0⟩ := opens_field op_3 Try.underlying70 hw hn hf 0 (o := 0) (n := 1) rfl rfl rfl (by kernel_rfl)
  obtain ⟨y1, r1, w1⟩ := opens_field op_9 Try.underlying70 hw hn hf 1 (o := 1) (n := 1) rfl rfl rfl (by kernel_rfl)
  obtain ⟨y2, r2, w2⟩ := opens_field op_4 Try.underlying70 hw hn hf 2 (o := 2) (n := 1) rfl rfl rfl (by kernel_rfl)
  exact ⟨⟨y0, y1, y2⟩, asm r0 (asm r1 (asm r2 (asm_end hl0))), ⟨w0, w1⟩⟩
theorem op_37 : Opens Try.prog 37 (RL (RF e_Ver) 3) (wfL wf_Ver) := opens_slice (by_ := 32) Try.underlying37 (by kernel_rfl) (by kernel_rfl) rfl (nb rfl) op_70
theorem op_39 : Opens Try.prog 39 R_Cell wf_Cell := by
  intro H enc w base spare held fuel cs x h hw
  obtain ⟨xs, n, -, hx, hl, hn, hf⟩ := DataW.trod_struct Try.underlying39 h
  subst hx
  have hl0 : cs.length = 2 := hl.trans (by kernel_rfl)
  obtain ⟨y0, r0, w0⟩ := opens_field op_9 Try.underlying39 hw hn hf 0 (o := 0) (n := 1) rfl rfl rfl (by kernel_rfl)
  obtain ⟨y1, r1, w1⟩ := opens_field op_37 Try.underlying39 hw hn hf 1 (o := 1) (n := 1) rfl rfl rfl (by kernel_rfl)
  obtain ⟨A1, c1, r1, h1⟩ := r1
  exact ⟨⟨y0, y1⟩, ⟨A1, c1, asm r0 (asm r1 (asm_end hl0)), h1⟩, ⟨w0, w1⟩⟩
theorem op_22 : Opens Try.prog 22 (RL R_Cell 2) (wfL wf_Cell) := opens_slice (by_ := 40) Try.underlying22 (by kernel_rfl) (by kernel_rfl) rfl (nb rfl) op_39
set_option maxRecDepth 100000 in
set_option maxHeartbeats 2000000 in
theorem lifted (os : Os) (started : os.Started) (H : Type) (enc : TypeId × Value → H) :
    ReturnsInHanded {} Try.checked os 3 .any (Rows.fnExactCopyAtSpec.pre6 enc Try.prog Try.f3 Rows.fnExactCopyAtRow.domain false) (Rows.fnExactCopyAtSpec.post enc Try.prog Try.f3 false true false false) := by
  refine returnsInHanded_of_change_sized (C := Try.checked) own started (by kernel_rfl) Try.func3
    (ChangeSpec.witness6 (enc := enc) (C := Try.checked) false ⟨#[], #[.slice none 0 0, .int .i64 (0)], []⟩ 8 (by kernel_rfl) (by kernel_rfl) (by kernel_rfl) (by kernel_rfl)) ?_
  intro W base args ds gs before hval0 hW _ hsz0 _
  have hval : ∀ (j : Nat) t v, Try.f3.params[j]? = some t → args[j]? = some v → Value.okWide Try.prog W .any base t v := hval0
  have hsz1 : (DataW.weightsEach Try.prog (Try.f3.params.toList ++ Rows.fnExactCopyAtSpec.plain.varTypes Try.prog) (ds ++ gs)).all (· ≤ reachBytes) = true := hsz0
  have hW' := hW
  obtain ⟨p, q, hA0, hV, -, -, -⟩ := hW
  have hA : DataW.TrodAll enc Try.prog W 0 (fun _ => true) true Try.f3.params.toList args.toList ds p := hA0
  rw [Try.params3] at hA hval hsz1
  obtain ⟨rfl, rfl⟩ := trodVars_none hV
  obtain ⟨v0, vs0, d0, ds0, p0, q0, ha0, hd0, -, t0, hA⟩ := trodAll_cons hA
  obtain ⟨v1, vs1, d1, ds1, p1, q1, ha1, hd1, -, t1, hA⟩ := trodAll_cons hA
  obtain ⟨hvs, hds, -⟩ := trodAll_nil hA
  have hargs : args = #[v0, v1] := by
    have : args.toList = [v0, v1] := by rw [ha0, ha1, hvs]
    cases args; simp only at this; rw [this]
  subst hargs
  have hds0 : ds = [d0, d1] := by rw [hd0, hd1, hds]
  subst hds0
  have hsz2 : (DataW.weightsEach Try.prog [22, 3] [d0, d1]).all (· ≤ reachBytes) = true := hsz1
  have hw0 : ∀ n ∈ d0.weights Try.prog 22, n ≤ reachBytes := fun n hn => by simpa using List.all_eq_true.1 hsz2 n (DataW.weights_mem_each (ts := [22, 3]) (ds := [d0, d1]) (j := 0) (t := 22) (d := d0) rfl rfl n hn)
  obtain ⟨x0, r0, wf0⟩ := open_arg op_22 t0 hw0
  obtain ⟨a0, n0, k0, rfl⟩ := okWide_slice Try.underlying22 (hval 0 22 _ rfl rfl)
  obtain ⟨A0, c0, r0, h0⟩ := r0
  have e0 := one_of_cells (v := .slice a0 n0 k0) rfl r0
  rw [e0]
  have hw1 : ∀ n ∈ d1.weights Try.prog 3, n ≤ reachBytes := fun n hn => by simpa using List.all_eq_true.1 hsz2 n (DataW.weights_mem_each (ts := [22, 3]) (ds := [d0, d1]) (j := 1) (t := 3) (d := d1) rfl rfl n hn)
  obtain ⟨x1, r1, wf1⟩ := open_arg op_3 t1 hw1
  obtain ⟨n1, rfl⟩ := okWide_int Try.underlying3 (hval 1 3 _ rfl rfl)
  have e1 := one_of_cells (v := .int .i64 n1) rfl r1
  rw [e1]
  refine Cal.mono (R := fun v w' => v = .bool (l_FnExactCopyAt x0 x1) ∧ Ex W w') (c_l_FnExactCopyAt x0 x1 (RdS.up h0 good_Cell) wf0 wf1) ?_
  rintro v W' ⟨rfl, he⟩
  rw [true_CopyAt x0 x1 wf0 wf1, ← e0, ← e1]
  exact law_post laid (by kernel_rfl) rfl rfl Try.underlying4 (fun _ => rfl) hW' he
theorem proved : Rows.FnExactCopyAtSaid :=
  OpenClaim.holds_of_wide 3 Try.f3 rfl rfl rfl rfl rfl rfl rfl ⟨rfl, rfl, rfl, rfl, rfl⟩ rfl rfl rfl rfl rfl (by kernel_rfl) Try.func3 (by kernel_rfl)
    (of_decide_eq_true (by kernel_rfl)) (by unfold Func.isWrapper; first | (rw [if_pos (by decide +kernel)]; kernel_rfl) | (rw [if_neg (by decide +kernel)]; exact ⟨rfl, rfl⟩))
    (fun os started H enc _ => lifted os started H enc)
end Go.Proofs.Ytbglfhmnjbgciaa.lawCopyAt
