/- laws.FnExactPutBack returns true, whatever its arguments are, and leaves what its arguments read as they were. Conditions: those of the given statement, and no more. -/
import Derived.Test.YtdbobbmagmcpnaaRows
import Derived.Test.YtdbobbmagmcpnaaChecked
import Derived.Test.YtdbobbmagmcpnaaPutBackC2
set_option linter.unusedVariables false
set_option linter.unusedSimpArgs false
namespace Go.Proofs.Ytdbobbmagmcpnaa.lawPutBack
open Go.ChangeShapes Go.WideShapes Go.RowKit Go.X Go.Proofs.Ytdbobbmagmcpnaa
theorem own : ownKnob Try.prog.godebug = none := by kernel_rfl
theorem laid : laidOutB Try.prog = true := by kernel_rfl
theorem op_3 : Opens Try.prog 3 (RF e_Int) wfI := opens_int Try.underlying3
theorem op_9 : Opens Try.prog 9 (RF e_Str) wfS := opens_string Try.underlying9
theorem op_4 : Opens Try.prog 4 (RF e_Bool) wfT := opens_bool Try.underlying4
theorem op_111 : Opens Try.prog 111 (RF e_Write) wf_Write := by
  intro H enc w base spare held fuel cs x h hw
  obtain ⟨xs, n, -, hx, hl, hn, hf⟩ := DataW.trod_struct Try.underlying111 h
  subst hx
  have hl0 : cs.length = 3 := hl.trans (by kernel_rfl)
  obtain ⟨y0, r0, w0⟩ := opens_field op_9 Try.underlying111 hw hn hf 0 (o := 0) (n := 1) rfl rfl rfl (by kernel_rfl)
  obtain ⟨y1, r1, w1⟩ := opens_field op_9 Try.underlying111 hw hn hf 1 (o := 1) (n := 1) rfl rfl rfl (by kernel_rfl)
  obtain ⟨y2, r2, w2⟩ := opens_field op_4 Try.underlying111 hw hn hf 2 (o := 2) (n := 1) rfl rfl rfl (by kernel_rfl)
  exact ⟨⟨y0, y1, y2⟩, asm r0 (asm r1 (asm r2 (asm_end hl0))), ⟨w0, w1⟩⟩
theorem op_44 : Opens Try.prog 44 (RL (RF e_Write) 3) (wfL wf_Write) := opens_slice (by_ := 40) Try.underlying44 (by kernel_rfl) (by kernel_rfl) rfl (Nat.le_of_ble_eq_true rfl) op_111
theorem op_61 : Opens Try.prog 61 R_Copy wf_Copy := by
  intro H enc w base spare held fuel cs x h hw
  obtain ⟨xs, n, -, hx, hl, hn, hf⟩ := DataW.trod_struct Try.underlying61 h
  subst hx
  have hl0 : cs.length = 2 := hl.trans (by kernel_rfl)
  obtain ⟨y0, r0, w0⟩ := opens_field op_3 Try.underlying61 hw hn hf 0 (o := 0) (n := 1) rfl rfl rfl (by kernel_rfl)
  obtain ⟨y1, r1, w1⟩ := opens_field op_44 Try.underlying61 hw hn hf 1 (o := 1) (n := 1) rfl rfl rfl (by kernel_rfl)
  obtain ⟨A1, c1, r1, h1⟩ := r1
  exact ⟨⟨y0, y1⟩, ⟨A1, c1, asm r0 (asm r1 (asm_end hl0)), h1⟩, ⟨w0, w1⟩⟩
set_option maxRecDepth 100000 in
set_option maxHeartbeats 2000000 in
theorem lifted (os : Os) (started : os.Started) (H : Type) (enc : TypeId × Value → H) :
    ReturnsInHanded {} Try.checked os 5 .any (Rows.fnExactPutBackSpec.pre6 enc Try.prog Try.f5 Rows.fnExactPutBackRow.domain false) (Rows.fnExactPutBackSpec.post enc Try.prog Try.f5 false true false false) := by
  refine returnsInHanded_of_change_sized (C := Try.checked) own started (by kernel_rfl) Try.func5
    (ChangeSpec.witness6 (enc := enc) (C := Try.checked) false ⟨#[], #[.agg #[.int .i64 (0), .slice none 0 0]], []⟩ 8 (by kernel_rfl) (by kernel_rfl) (by kernel_rfl) (by kernel_rfl)) ?_
  intro W base args ds gs before hval0 hW _ hsz0 _
  have hval : ∀ (j : Nat) t v, Try.f5.params[j]? = some t → args[j]? = some v → Value.okWide Try.prog W .any base t v := hval0
  have hsz1 : (DataW.weightsEach Try.prog (Try.f5.params.toList ++ Rows.fnExactPutBackSpec.plain.varTypes Try.prog) (ds ++ gs)).all (· ≤ reachBytes) = true := hsz0
  have hW' := hW
  obtain ⟨p, q, hA0, hV, -, -, -⟩ := hW
  have hA : DataW.TrodAll enc Try.prog W 0 (fun _ => true) true Try.f5.params.toList args.toList ds p := hA0
  rw [Try.params5] at hA hval hsz1
  obtain ⟨rfl, rfl⟩ := trodVars_none hV
  obtain ⟨v0, vs0, d0, ds0, p0, q0, ha0, hd0, -, t0, hA⟩ := trodAll_cons hA
  obtain ⟨hvs, hds, -⟩ := trodAll_nil hA
  have hargs : args = #[v0] := by
    have : args.toList = [v0] := by rw [ha0, hvs]
    cases args; simp only at this; rw [this]
  subst hargs
  have hds0 : ds = [d0] := by rw [hd0, hds]
  subst hds0
  have hsz2 : (DataW.weightsEach Try.prog [61] [d0]).all (· ≤ reachBytes) = true := hsz1
  have hw0 : ∀ n ∈ d0.weights Try.prog 61, n ≤ reachBytes := fun n hn => by simpa using List.all_eq_true.1 hsz2 n (DataW.weights_mem_each (ts := [61]) (ds := [d0]) (j := 0) (t := 61) (d := d0) rfl rfl n hn)
  obtain ⟨x0, r0, wf0⟩ := open_arg op_61 t0 hw0
  obtain ⟨cs0, rfl, -⟩ := okWide_struct Try.underlying61 (hval 0 61 _ rfl rfl)
  obtain ⟨A0_1, c0_1, r0, h0_1⟩ := r0
  have e0 := agg_of_cells r0
  rw [e0]
  refine Cal.mono (R := fun v w' => v = .bool (l_FnExactPutBack x0) ∧ Ex W w') (c_l_FnExactPutBack x0 (RdS.up h0_1 good_Write) wf0) ?_
  rintro v W' ⟨rfl, he⟩
  rw [true_PutBack x0 wf0, ← e0]
  exact law_post laid (by kernel_rfl) rfl rfl Try.underlying4 (fun _ => rfl) hW' he
theorem proved : Rows.FnExactPutBackSaid :=
  OpenClaim.holds_of_wide 5 Try.f5 rfl rfl rfl rfl rfl rfl rfl ⟨rfl, rfl, rfl, rfl, rfl⟩ rfl rfl rfl rfl rfl (by kernel_rfl) Try.func5 (by kernel_rfl)
    (of_decide_eq_true (by kernel_rfl)) (by unfold Func.isWrapper; first | (rw [if_pos (by decide +kernel)]; kernel_rfl) | (rw [if_neg (by decide +kernel)]; exact ⟨rfl, rfl⟩))
    (fun os started H enc _ => lifted os started H enc)
end Go.Proofs.Ytdbobbmagmcpnaa.lawPutBack
