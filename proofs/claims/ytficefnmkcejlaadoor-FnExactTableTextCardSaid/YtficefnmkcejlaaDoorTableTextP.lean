/- laws.FnExactTableText returns true, whatever its arguments are, and leaves what its arguments read as they were. Conditions: those of the given statement, and no more. -/
import Derived.Test.YtficefnmkcejlaaDoorRows
import Derived.Test.YtficefnmkcejlaaDoorChecked
import Derived.Test.YtficefnmkcejlaaDoorCards
import Derived.Test.YtficefnmkcejlaaDoorTie
import Derived.MakeChecks
import Derived.Lay
import Derived.LaidOnce
import Derived.SevenTiedAt
import Derived.Test.YtficefnmkcejlaaDoorTableTextC1
set_option linter.unusedVariables false
set_option linter.unusedSimpArgs false
namespace Go.Proofs.YtficefnmkcejlaaDoor.lawTableText
open Go.ChangeShapes Go.WideShapes Go.ChangeAt Go.RowKit Go.X Go.Proofs.YtficefnmkcejlaaDoor
theorem own : ownKnob Tryd.prog.godebug = none := by kernel_rfl
theorem laid : laidOutB Tryd.prog = true := by kernel_rfl
theorem op_9 : Opens Tryd.prog 9 (RF e_Str) wfS := opens_string Tryd.underlying9
theorem op_22 : Opens Tryd.prog 22 (RL (RF e_Str) 1) (wfL wfS) := opens_slice (by_ := 16) Tryd.underlying22 (by kernel_rfl) (by kernel_rfl) rfl (Nat.le_of_ble_eq_true rfl) op_9
theorem op_3 : Opens Tryd.prog 3 (RF e_Int) wfI := opens_int Tryd.underlying3
theorem op_45 : Opens Tryd.prog 45 (RF e_Idx) wf_Idx := by
  intro H enc w base spare held fuel cs x h hw
  obtain ⟨xs, n, -, hx, hl, hn, hf⟩ := DataW.trod_struct Tryd.underlying45 h
  subst hx
  have hl0 : cs.length = 3 := hl.trans (by kernel_rfl)
  obtain ⟨y0, r0, w0⟩ := opens_field op_9 Tryd.underlying45 hw hn hf 0 (o := 0) (n := 1) rfl rfl rfl (by kernel_rfl)
  obtain ⟨y1, r1, w1⟩ := opens_field op_3 Tryd.underlying45 hw hn hf 1 (o := 1) (n := 1) rfl rfl rfl (by kernel_rfl)
  obtain ⟨y2, r2, w2⟩ := opens_field op_3 Tryd.underlying45 hw hn hf 2 (o := 2) (n := 1) rfl rfl rfl (by kernel_rfl)
  exact ⟨⟨y0, y1, y2⟩, asm r0 (asm r1 (asm r2 (asm_end hl0))), ⟨w0, w1, w2⟩⟩
theorem op_23 : Opens Tryd.prog 23 (RL (RF e_Idx) 3) (wfL wf_Idx) := opens_slice (by_ := 32) Tryd.underlying23 (by kernel_rfl) (by kernel_rfl) rfl (Nat.le_of_ble_eq_true rfl) op_45
theorem op_25 : Opens Tryd.prog 25 R_Table wf_Table := by
  intro H enc w base spare held fuel cs x h hw
  obtain ⟨xs, n, -, hx, hl, hn, hf⟩ := DataW.trod_struct Tryd.underlying25 h
  subst hx
  have hl0 : cs.length = 3 := hl.trans (by kernel_rfl)
  obtain ⟨y0, r0, w0⟩ := opens_field op_9 Tryd.underlying25 hw hn hf 0 (o := 0) (n := 1) rfl rfl rfl (by kernel_rfl)
  obtain ⟨y1, r1, w1⟩ := opens_field op_22 Tryd.underlying25 hw hn hf 1 (o := 1) (n := 1) rfl rfl rfl (by kernel_rfl)
  obtain ⟨y2, r2, w2⟩ := opens_field op_23 Tryd.underlying25 hw hn hf 2 (o := 2) (n := 1) rfl rfl rfl (by kernel_rfl)
  obtain ⟨A1, c1, r1, h1⟩ := r1
  obtain ⟨A2, c2, r2, h2⟩ := r2
  exact ⟨⟨y0, y1, y2⟩, ⟨A1, c1, A2, c2, asm r0 (asm r1 (asm r2 (asm_end hl0))), h1, h2⟩, ⟨w0, w1, w2⟩⟩
set_option maxRecDepth 100000 in
set_option maxHeartbeats 2000000 in
theorem lifted (os : Os) (started : os.Started) (H : Type) (enc : TypeId × Value → H) :
    ReturnsInHanded {} Tryd.checked os 3 .any (fun w args => (Rows.fnExactTableTextSpec.pre enc Tryd.prog Tryd.f3 [] false w args ∧ laidMetH Tryd.prog Rows.fnExactTableTextRow.laid w) ∧ sizedMet enc Tryd.prog Tryd.f3 (OpenSpec.ofChange Rows.fnExactTableTextSpec) false w args) (Rows.fnExactTableTextSpec.post enc Tryd.prog Tryd.f3 false true false false) := by
  refine returnsInHanded_of_change_and (C := Tryd.checked) (X := fun w _ => laidMetH Tryd.prog Rows.fnExactTableTextRow.laid w) (fun _ _ _ hh h => h.of_heap hh) own started (by kernel_rfl) Tryd.func3
    (ChangeSpec.witness_shaped (enc := enc) (C := Tryd.checked) (os := os) (X := fun w _ => laidMetH Tryd.prog Rows.fnExactTableTextRow.laid w) false (World.laidAll Tryd.prog os Rows.fnExactTableTextRow.laid) #[.agg #[.string ByteArray.empty, .slice none 0 0, .slice none 0 0]] 8 (World.laidAll_os _ _ _)
      (World.shaped_of_ZipB (by kernel_rfl) (by kernel_rfl)) (by kernel_rfl) (by kernel_rfl) (by kernel_rfl)
      (by rw [MakeChecks.laidMetH_plain _ _ _ (by kernel_rfl)]; exact laidMet_laidAll _ (by kernel_rfl) (by kernel_rfl))) ?_
  intro W base args ds gs before hval0 hW _ hsz0 _ _
  have hval : ∀ (j : Nat) t v, Tryd.f3.params[j]? = some t → args[j]? = some v → Value.okWide Tryd.prog W .any base t v := hval0
  have hsz1 : (DataW.weightsEach Tryd.prog (Tryd.f3.params.toList ++ Rows.fnExactTableTextSpec.plain.varTypes Tryd.prog) (ds ++ gs)).all (· ≤ reachBytes) = true := hsz0
  have hW' := hW
  obtain ⟨p, q, hA0, hV, -, -, -⟩ := hW
  have hA : DataW.TrodAll enc Tryd.prog W 0 (fun _ => true) true Tryd.f3.params.toList args.toList ds p := hA0
  rw [Tryd.params3] at hA hval hsz1
  obtain ⟨rfl, rfl⟩ := trodVars_none hV
  obtain ⟨v0, vs0, d0, ds0, p0, q0, ha0, hd0, -, t0, hA⟩ := trodAll_cons hA
  obtain ⟨hvs, hds, -⟩ := trodAll_nil hA
  have hargs : args = #[v0] := by
    have : args.toList = [v0] := by rw [ha0, hvs]
    cases args; simp only at this; rw [this]
  subst hargs
  have hds0 : ds = [d0] := by rw [hd0, hds]
  subst hds0
  have hsz2 : (DataW.weightsEach Tryd.prog [25] [d0]).all (· ≤ reachBytes) = true := hsz1
  have hw0 : ∀ n ∈ d0.weights Tryd.prog 25, n ≤ reachBytes := fun n hn => by simpa using List.all_eq_true.1 hsz2 n (DataW.weights_mem_each (ts := [25]) (ds := [d0]) (j := 0) (t := 25) (d := d0) rfl rfl n hn)
  obtain ⟨x0, r0, wf0⟩ := open_arg op_25 t0 hw0
  obtain ⟨cs0, rfl, -⟩ := okWide_struct Tryd.underlying25 (hval 0 25 _ rfl rfl)
  obtain ⟨A0_1, c0_1, A0_2, c0_2, r0, h0_1, h0_2⟩ := r0
  have e0 := agg_of_cells r0
  rw [e0]
  refine Cal.mono (R := fun v w' => v = .bool (l_FnExactTableText x0) ∧ Ex W w') (c_l_FnExactTableText x0 (RdS.up h0_1 good_Str) (RdS.up h0_2 good_Idx) wf0) ?_
  rintro v W' ⟨rfl, he⟩
  rw [true_TableText x0 wf0, ← e0]
  exact law_post laid (by kernel_rfl) rfl rfl Tryd.underlying4 (fun _ => rfl) hW' he
theorem row_holds : Rows.FnExactTableTextSaid :=
  OpenClaim.holds_of_wide 3 Tryd.f3 rfl rfl rfl rfl rfl rfl rfl ⟨rfl, rfl, rfl, rfl, rfl⟩ rfl rfl rfl rfl rfl (by kernel_rfl) Tryd.func3 (by kernel_rfl)
    (of_decide_eq_true (by kernel_rfl)) (by unfold Func.isWrapper; first | (rw [if_pos (by decide +kernel)]; kernel_rfl) | (rw [if_neg (by decide +kernel)]; exact ⟨rfl, rfl⟩))
    (fun os started H enc _ => lifted os started H enc)
theorem proved : Rows.FnExactTableTextCardSaid :=
  Claim7.holds_tied_plain_at .later [] [.data, .data, .data] true (true, "cc02d41580335fcd315ce74e454bc3f53da5dde848b4d4f22bcb285a6551b6cc") false row_holds (fun _ h => by cases h) (by kernel_rfl) (fun _ h => by cases h) fnExactTableText_row_tie rfl ⟨rfl, rfl⟩ (by kernel_rfl) rfl
    (fun f fn hf hfn => by
      obtain rfl : f = 3 := Option.some.inj ((show Tryd.prog.funcNamed "loop.example/g00850/laws.FnExactTableText" = some 3 by kernel_rfl).symm.trans hf) |>.symm
      obtain rfl : fn = Tryd.f3 := (Option.some.inj (Tryd.func3.symm.trans hfn)).symm
      exact ⟨by kernel_rfl, fun j t ht => by
        rw [Tryd.params3] at ht
        have hm : t ∈ [25] := by simpa using Array.mem_of_getElem? ht
        have hall : ([25].all fun u => !Tryd.prog.wantsStandIn u) = true := by kernel_rfl
        exact (show Tryd.prog.wantsStandIn t = false by simpa using List.all_eq_true.1 hall t hm)⟩)
    (by kernel_rfl)
end Go.Proofs.YtficefnmkcejlaaDoor.lawTableText
