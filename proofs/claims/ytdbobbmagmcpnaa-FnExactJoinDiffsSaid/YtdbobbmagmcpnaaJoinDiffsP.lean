/- laws.FnExactJoinDiffs returns true, whatever its arguments are, and leaves what its arguments read as they were. Conditions: those of the given statement, and no more. -/
import Derived.Test.YtdbobbmagmcpnaaRows
import Derived.Test.YtdbobbmagmcpnaaChecked
import Derived.Test.YtdbobbmagmcpnaaJoinDiffsC2
set_option linter.unusedVariables false
set_option linter.unusedSimpArgs false
namespace Go.Proofs.Ytdbobbmagmcpnaa.lawJoinDiffs
open Go.ChangeShapes Go.WideShapes Go.RowKit Go.X Go.Proofs.Ytdbobbmagmcpnaa
theorem own : ownKnob Try.prog.godebug = none := by kernel_rfl
theorem laid : laidOutB Try.prog = true := by kernel_rfl
theorem op_3 : Opens Try.prog 3 (RF e_Int) wfI := opens_int Try.underlying3
theorem op_9 : Opens Try.prog 9 (RF e_Str) wfS := opens_string Try.underlying9
theorem op_4 : Opens Try.prog 4 (RF e_Bool) wfT := opens_bool Try.underlying4
theorem op_187 : Opens Try.prog 187 (RF e_FeedItem) wf_FeedItem := by
  intro H enc w base spare held fuel cs x h hw
  obtain ⟨xs, n, -, hx, hl, hn, hf⟩ := DataW.trod_struct Try.underlying187 h
  subst hx
  have hl0 : cs.length = 5 := hl.trans (by kernel_rfl)
  obtain ⟨y0, r0, w0⟩ := opens_field op_3 Try.underlying187 hw hn hf 0 (o := 0) (n := 1) rfl rfl rfl (by kernel_rfl)
  obtain ⟨y1, r1, w1⟩ := opens_field op_3 Try.underlying187 hw hn hf 1 (o := 1) (n := 1) rfl rfl rfl (by kernel_rfl)
  obtain ⟨y2, r2, w2⟩ := opens_field op_9 Try.underlying187 hw hn hf 2 (o := 2) (n := 1) rfl rfl rfl (by kernel_rfl)
  obtain ⟨y3, r3, w3⟩ := opens_field op_9 Try.underlying187 hw hn hf 3 (o := 3) (n := 1) rfl rfl rfl (by kernel_rfl)
  obtain ⟨y4, r4, w4⟩ := opens_field op_4 Try.underlying187 hw hn hf 4 (o := 4) (n := 1) rfl rfl rfl (by kernel_rfl)
  exact ⟨⟨y0, y1, y2, y3, y4⟩, asm r0 (asm r1 (asm r2 (asm r3 (asm r4 (asm_end hl0))))), ⟨w0, w1, w2, w3⟩⟩
theorem op_79 : Opens Try.prog 79 (RL (RF e_FeedItem) 5) (wfL wf_FeedItem) := opens_slice (by_ := 56) Try.underlying79 (by kernel_rfl) (by kernel_rfl) rfl (Nat.le_of_ble_eq_true rfl) op_187
theorem op_81 : Opens Try.prog 81 R_Diff wf_Diff := by
  intro H enc w base spare held fuel cs x h hw
  obtain ⟨xs, n, -, hx, hl, hn, hf⟩ := DataW.trod_struct Try.underlying81 h
  subst hx
  have hl0 : cs.length = 3 := hl.trans (by kernel_rfl)
  obtain ⟨y0, r0, w0⟩ := opens_field op_3 Try.underlying81 hw hn hf 0 (o := 0) (n := 1) rfl rfl rfl (by kernel_rfl)
  obtain ⟨y1, r1, w1⟩ := opens_field op_3 Try.underlying81 hw hn hf 1 (o := 1) (n := 1) rfl rfl rfl (by kernel_rfl)
  obtain ⟨y2, r2, w2⟩ := opens_field op_79 Try.underlying81 hw hn hf 2 (o := 2) (n := 1) rfl rfl rfl (by kernel_rfl)
  obtain ⟨A2, c2, r2, h2⟩ := r2
  exact ⟨⟨y0, y1, y2⟩, ⟨A2, c2, asm r0 (asm r1 (asm r2 (asm_end hl0))), h2⟩, ⟨w0, w1, w2⟩⟩
set_option maxRecDepth 100000 in
set_option maxHeartbeats 2000000 in
theorem lifted (os : Os) (started : os.Started) (H : Type) (enc : TypeId × Value → H) :
    ReturnsInHanded {} Try.checked os 7 .any (Rows.fnExactJoinDiffsSpec.pre6 enc Try.prog Try.f7 Rows.fnExactJoinDiffsRow.domain false) (Rows.fnExactJoinDiffsSpec.post enc Try.prog Try.f7 false true false false) := by
  refine returnsInHanded_of_change_sized (C := Try.checked) own started (by kernel_rfl) Try.func7
    (ChangeSpec.witness6 (enc := enc) (C := Try.checked) false ⟨#[], #[.agg #[.int .i64 (0), .int .i64 (0), .slice none 0 0], .agg #[.int .i64 (0), .int .i64 (0), .slice none 0 0]], []⟩ 8 (by kernel_rfl) (by kernel_rfl) (by kernel_rfl) (by kernel_rfl)) ?_
  intro W base args ds gs before hval0 hW _ hsz0 _
  have hval : ∀ (j : Nat) t v, Try.f7.params[j]? = some t → args[j]? = some v → Value.okWide Try.prog W .any base t v := hval0
  have hsz1 : (DataW.weightsEach Try.prog (Try.f7.params.toList ++ Rows.fnExactJoinDiffsSpec.plain.varTypes Try.prog) (ds ++ gs)).all (· ≤ reachBytes) = true := hsz0
  have hW' := hW
  obtain ⟨p, q, hA0, hV, -, -, -⟩ := hW
  have hA : DataW.TrodAll enc Try.prog W 0 (fun _ => true) true Try.f7.params.toList args.toList ds p := hA0
  rw [Try.params7] at hA hval hsz1
  obtain ⟨rfl, rfl⟩ := trodVars_none hV
  obtain ⟨v0, vs0, d0, ds0, p0, q0, ha0, hd0, -, t0, hA⟩ := trodAll_cons hA
  obtain ⟨v1, vs1, d1, ds1, p1, q1, ha1, hd1, -, t1, hA⟩ := trodAll_cons hA
  obtain ⟨hvs, hds, -⟩ := trodAll_nil hA
  have hargs : args = #[v0, v1] := by
    have : args.toList = [v0, v1] := by rw [ha0, ha1, hvs]
    cases args; simp only at this; rw [this]
  subst hargs
  have hds0 : ds = [d0, d1] := by rw [hd0, hd1, hds]
  subst hds0
  have hsz2 : (DataW.weightsEach Try.prog [81, 81] [d0, d1]).all (· ≤ reachBytes) = true := hsz1
  have hw0 : ∀ n ∈ d0.weights Try.prog 81, n ≤ reachBytes := fun n hn => by simpa using List.all_eq_true.1 hsz2 n (DataW.weights_mem_each (ts := [81, 81]) (ds := [d0, d1]) (j := 0) (t := 81) (d := d0) rfl rfl n hn)
  obtain ⟨x0, r0, wf0⟩ := open_arg op_81 t0 hw0
  obtain ⟨cs0, rfl, -⟩ := okWide_struct Try.underlying81 (hval 0 81 _ rfl rfl)
  obtain ⟨A0_2, c0_2, r0, h0_2⟩ := r0
  have e0 := agg_of_cells r0
  rw [e0]
  have hw1 : ∀ n ∈ d1.weights Try.prog 81, n ≤ reachBytes := fun n hn => by simpa using List.all_eq_true.1 hsz2 n (DataW.weights_mem_each (ts := [81, 81]) (ds := [d0, d1]) (j := 1) (t := 81) (d := d1) rfl rfl n hn)
  obtain ⟨x1, r1, wf1⟩ := open_arg op_81 t1 hw1
  obtain ⟨cs1, rfl, -⟩ := okWide_struct Try.underlying81 (hval 1 81 _ rfl rfl)
  obtain ⟨A1_2, c1_2, r1, h1_2⟩ := r1
  have e1 := agg_of_cells r1
  rw [e1]
  refine Cal.mono (R := fun v w' => v = .bool (l_FnExactJoinDiffs x0 x1) ∧ Ex W w') (c_l_FnExactJoinDiffs x0 x1 (RdS.up h0_2 good_FeedItem) (RdS.up h1_2 good_FeedItem) wf0 wf1) ?_
  rintro v W' ⟨rfl, he⟩
  rw [true_JoinDiffs x0 x1 wf0 wf1, ← e0, ← e1]
  exact law_post laid (by kernel_rfl) rfl rfl Try.underlying4 (fun _ => rfl) hW' he
theorem proved : Rows.FnExactJoinDiffsSaid :=
  OpenClaim.holds_of_wide 7 Try.f7 rfl rfl rfl rfl rfl rfl rfl ⟨rfl, rfl, rfl, rfl, rfl⟩ rfl rfl rfl rfl rfl (by kernel_rfl) Try.func7 (by kernel_rfl)
    (of_decide_eq_true (by kernel_rfl)) (by unfold Func.isWrapper; first | (rw [if_pos (by decide +kernel)]; kernel_rfl) | (rw [if_neg (by decide +kernel)]; exact ⟨rfl, rfl⟩))
    (fun os started H enc _ => lifted os started H enc)
end Go.Proofs.Ytdbobbmagmcpnaa.lawJoinDiffs
