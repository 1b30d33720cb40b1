/- laws.FnTables returns true, whatever its arguments are, and leaves what its arguments read as they were. Conditions: those of the given statement, and no more. -/
import Derived.Test.YtgfkmgjpannelaaGreatDoorRows
import Derived.Test.YtgfkmgjpannelaaGreatDoorChecked
import Derived.Test.YtgfkmgjpannelaaGreatDoorCards
import Derived.Test.YtgfkmgjpannelaaGreatDoorTie
import Derived.MakeChecks
import Derived.Lay
import Derived.LaidOnce
import Derived.SevenTiedAt
import Derived.Stop.LaidErr
import Derived.Test.YtgfkmgjpannelaaGreatDoorFnTablesC5
set_option linter.unusedVariables false
set_option linter.unusedSimpArgs false
namespace Go.Proofs.YtgfkmgjpannelaaGreatDoor.lawFnTables
open Go.ChangeShapes Go.WideShapes Go.ChangeAt Go.RowKit Go.X Go.Proofs.YtgfkmgjpannelaaGreatDoor
theorem own : ownKnob Tryz.prog.godebug = none := by kernel_rfl
theorem laid : laidOutB Tryz.prog = true := by kernel_rfl
theorem op_5 : Opens Tryz.prog 5 (RF e_U8) wfU8 := opens_u8 Tryz.underlying5
theorem op_22 : Opens Tryz.prog 22 (RL (RF e_U8) 1) (wfL wfU8) := opens_slice (by_ := 1) Tryz.underlying22 (by kernel_rfl) (by kernel_rfl) rfl (nb rfl) op_5
theorem errStar : "*" ++ "errors.errorString" = "*errors.errorString" := by decide
theorem errRow (u : TypeId) (h : Tryz.prog.typeName? 3 u = some "*errors.errorString") : u = 149 :=
  typeName_ptr_named (nm := "errors.errorString") (by rw [errStar]; kernel_rfl) (by kernel_rfl) (by decide) u (by rw [errStar]; exact h)
theorem errSyntax {W : World} (h : laidMetH Tryz.prog Rows.fnTablesRow.laid W) : ErrVar 1 W := by
  rw [MakeChecks.laidMetH_plain _ _ _ (by kernel_rfl)] at h
  have h := laidMet.tail h
  have h := laidMet.tail h
  have h := laidMet.tail h
  have h := laidMet.tail h
  have h := laidMet.tail h
  obtain ⟨a, s, hv, -⟩ := laid_sentinel (g := 1) (ti := 93) (te := 151) (ts := 9) h (by kernel_rfl) (by kernel_rfl) Tryz.underlying93 errRow Tryz.underlying149 Tryz.underlying151 rfl rfl Tryz.underlying9 (by kernel_rfl) (by kernel_rfl)
  exact ⟨_, (World.var?_cell (g := 1) (by kernel_rfl) hv 0).trans rfl, .inr ⟨_, _, rfl⟩⟩
theorem errRange {W : World} (h : laidMetH Tryz.prog Rows.fnTablesRow.laid W) : ErrVar 2 W := by
  rw [MakeChecks.laidMetH_plain _ _ _ (by kernel_rfl)] at h
  have h := laidMet.tail h
  have h := laidMet.tail h
  have h := laidMet.tail h
  have h := laidMet.tail h
  obtain ⟨a, s, hv, -⟩ := laid_sentinel (g := 2) (ti := 93) (te := 151) (ts := 9) h (by kernel_rfl) (by kernel_rfl) Tryz.underlying93 errRow Tryz.underlying149 Tryz.underlying151 rfl rfl Tryz.underlying9 (by kernel_rfl) (by kernel_rfl)
  exact ⟨_, (World.var?_cell (g := 2) (by kernel_rfl) hv 0).trans rfl, .inr ⟨_, _, rfl⟩⟩
theorem gbOf {W : World} (h : laidMetH Tryz.prog Rows.fnTablesRow.laid W) : GB 1 2 W := ⟨errSyntax h, errRange h⟩
set_option maxRecDepth 100000 in
set_option maxHeartbeats 2000000 in
theorem lifted (os : Os) (started : os.Started) (H : Type) (enc : TypeId × Value → H) :
    ReturnsInHanded {} Tryz.checked os 3 .any (fun w args => (Rows.fnTablesSpec.pre enc Tryz.prog Tryz.f3 [] false w args ∧ laidMetH Tryz.prog Rows.fnTablesRow.laid w) ∧ sizedMet enc Tryz.prog Tryz.f3 (OpenSpec.ofChange Rows.fnTablesSpec) false w args) (Rows.fnTablesSpec.post enc Tryz.prog Tryz.f3 false true false false) := by
  refine returnsInHanded_of_change_and (C := Tryz.checked) (X := fun w _ => laidMetH Tryz.prog Rows.fnTablesRow.laid w) (fun _ _ _ hh h => h.of_heap hh) own started (by kernel_rfl) Tryz.func3
    (ChangeSpec.witness_shaped (enc := enc) (C := Tryz.checked) (os := os) (X := fun w _ => laidMetH Tryz.prog Rows.fnTablesRow.laid w) false (World.laidAll Tryz.prog os Rows.fnTablesRow.laid) #[.slice none 0 0, .slice none 0 0] 8 (World.laidAll_os _ _ _)
      (World.shaped_of_ZipB (by kernel_rfl) (by kernel_rfl)) (by kernel_rfl) (by kernel_rfl) (by kernel_rfl)
      (by rw [MakeChecks.laidMetH_plain _ _ _ (by kernel_rfl)]; exact laidMet_laidAll _ (by kernel_rfl) (by kernel_rfl))) ?_
  intro W base args ds gs before hval0 hW _ hsz0 hL0 _
  have hval : ∀ (j : Nat) t v, Tryz.f3.params[j]? = some t → args[j]? = some v → Value.okWide Tryz.prog W .any base t v := hval0
  have hsz1 : (DataW.weightsEach Tryz.prog (Tryz.f3.params.toList ++ Rows.fnTablesSpec.plain.varTypes Tryz.prog) (ds ++ gs)).all (· ≤ reachBytes) = true := hsz0
  have hW' := hW
  obtain ⟨p, q, hA0, hV, -, -, -⟩ := hW
  have hA : DataW.TrodAll enc Tryz.prog W 0 (fun _ => true) true Tryz.f3.params.toList args.toList ds p := hA0
  rw [Tryz.params3] at hA hval hsz1
  obtain ⟨rfl, rfl⟩ := trodVars_none hV
  obtain ⟨v0, vs0, d0, ds0, p0, q0, ha0, hd0, -, t0, hA⟩ := trodAll_cons hA
  obtain ⟨v1, vs1, d1, ds1, p1, q1, ha1, hd1, -, t1, hA⟩ := trodAll_cons hA
  obtain ⟨hvs, hds, -⟩ := trodAll_nil hA
  have hargs : args = #[v0, v1] := by
    have : args.toList = [v0, v1] := by rw [ha0, ha1, hvs]
    cases args; simp only at this; rw [this]
  subst hargs
  have hds0 : ds = [d0, d1] := by rw [hd0, hd1, hds]
  subst hds0
  have hsz2 : (DataW.weightsEach Tryz.prog [22, 22] [d0, d1]).all (· ≤ reachBytes) = true := hsz1
  have hw0 : ∀ n ∈ d0.weights Tryz.prog 22, n ≤ reachBytes := fun n hn => by simpa using List.all_eq_true.1 hsz2 n (DataW.weights_mem_each (ts := [22, 22]) (ds := [d0, d1]) (j := 0) (t := 22) (d := d0) rfl rfl n hn)
  obtain ⟨x0, r0, wf0⟩ := open_arg op_22 t0 hw0
  obtain ⟨a0, n0, k0, rfl⟩ := okWide_slice Tryz.underlying22 (hval 0 22 _ rfl rfl)
  obtain ⟨A0, c0, r0, h0⟩ := r0
  have e0 := one_of_cells (v := .slice a0 n0 k0) rfl r0
  rw [e0]
  have hw1 : ∀ n ∈ d1.weights Tryz.prog 22, n ≤ reachBytes := fun n hn => by simpa using List.all_eq_true.1 hsz2 n (DataW.weights_mem_each (ts := [22, 22]) (ds := [d0, d1]) (j := 1) (t := 22) (d := d1) rfl rfl n hn)
  obtain ⟨x1, r1, wf1⟩ := open_arg op_22 t1 hw1
  obtain ⟨a1, n1, k1, rfl⟩ := okWide_slice Tryz.underlying22 (hval 1 22 _ rfl rfl)
  obtain ⟨A1, c1, r1, h1⟩ := r1
  have e1 := one_of_cells (v := .slice a1 n1 k1) rfl r1
  rw [e1]
  refine Cal.mono (R := fun v w' => v = .bool (l_FnTables x0 x1) ∧ Ex W w') (c_l_FnTables x0 x1 (RdS.up h0 gU) (RdS.up h1 gU) (codeOk_wf wf0) (codeOk_wf wf1) (gbOf hL0)) ?_
  rintro v W' ⟨rfl, he⟩
  rw [true_FnTables x0 x1, ← e0, ← e1]
  exact law_post laid (by kernel_rfl) rfl rfl Tryz.underlying4 (fun _ => rfl) hW' he
theorem row_holds : Rows.FnTablesSaid :=
  OpenClaim.holds_of_wide 3 Tryz.f3 rfl rfl rfl rfl rfl rfl rfl ⟨rfl, rfl, rfl, rfl, rfl⟩ rfl rfl rfl rfl rfl (by kernel_rfl) Tryz.func3 (by kernel_rfl)
    (of_decide_eq_true (by kernel_rfl)) (by unfold Func.isWrapper; first | (rw [if_pos (by decide +kernel)]; kernel_rfl) | (rw [if_neg (by decide +kernel)]; exact ⟨rfl, rfl⟩))
    (fun os started H enc _ => lifted os started H enc)
theorem proved : Rows.FnTablesCardSaid :=
  Claim7.holds_tied_plain_at .later [] [.data, .data, .data, .data, .sentinel, .sentinel, .pinned] true (true, "69a148c43c91ff9b25c27e13217b12ecfec40e3e2abecbe09e6d546bd9d971e5") true row_holds (fun _ h => by cases h) (by kernel_rfl) (fun _ h => by cases h) fnTables_row_tie rfl ⟨rfl, rfl⟩ (by kernel_rfl) rfl
    (fun f fn hf hfn => by
      obtain rfl : f = 3 := Option.some.inj ((show Tryz.prog.funcNamed "loop.example/g00850/laws.FnTables" = some 3 by kernel_rfl).symm.trans hf) |>.symm
      obtain rfl : fn = Tryz.f3 := (Option.some.inj (Tryz.func3.symm.trans hfn)).symm
      exact ⟨by kernel_rfl, fun j t ht => by
        rw [Tryz.params3] at ht
        have hm : t ∈ [22, 22] := by simpa using Array.mem_of_getElem? ht
        have hall : ([22, 22].all fun u => !Tryz.prog.wantsStandIn u) = true := by kernel_rfl
        exact (show Tryz.prog.wantsStandIn t = false by simpa using List.all_eq_true.1 hall t hm)⟩)
    (by kernel_rfl)
end Go.Proofs.YtgfkmgjpannelaaGreatDoor.lawFnTables
