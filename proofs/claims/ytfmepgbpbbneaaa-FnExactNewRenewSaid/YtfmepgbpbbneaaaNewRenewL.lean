/- New Renew: plain laws of the models. -/
import Derived.Test.YtfmepgbpbbneaaaNewRenewT
set_option linter.unusedVariables false
set_option linter.unusedSimpArgs false
namespace Go.Proofs.Ytfmepgbpbbneaaa
open Go.RowKit Go.X
theorem eq_Clock (x : DClock) : l_eqClock x x = true := by unfold l_eqClock; simp only [beq_self_eq_true, cond_true, decide_true]
theorem eq_VLease (x : DVLease) : l_eqVLease x x = true := by unfold l_eqVLease; simp only [beq_self_eq_true, cond_true, decide_true]
theorem eq_ClockS (x : List DClock) : l_eqClockS x x = true := eqL_refl d_Clock (f := l_eqClock) eq_Clock x
theorem eq_VLeaseS (x : List DVLease) : l_eqVLeaseS x x = true := eqL_refl d_VLease (f := l_eqVLease) eq_VLease x
theorem eq_Renew (x : DRenew) : l_eqRenew x x = true := by unfold l_eqRenew; simp only [eq_Clock, eq_ClockS, eq_VLeaseS, beq_self_eq_true, cond_true, decide_true]
def mk_Clock (_ : DClock) (k : Int) : Int × DClock := (IntKind.wrap .i64 (k + 1), ⟨k⟩)
theorem mkc_Clock (x : DClock) (k : Int) (h0 : 0 ≤ k) (h1 : k + ((1 : Nat) : Int) ≤ 4611686018427387904) : (mk_Clock x k).1 = k + ((1 : Nat) : Int) := by
  unfold mk_Clock
  simp only [IntKind.wrap_i64]; omega
theorem mark_ClockS (a : List DClock) (k : Int) : l_markClockS a k = mkL mk_Clock a k := by
  unfold l_markClockS
  exact markE (d := d_Clock) (mk := mk_Clock) (fun i k xs hi => by unfold B_l_markClockS_0; simp only [List.set_set, getD_set_self hi, mk_Clock]) a k
theorem held_ClockS (a : List DClock) (k : Int) (h0 : 0 ≤ k) (h1 : k + (cntL (fun _ => 1) a : Int) ≤ 4611686018427387904) : l_heldClockS (l_markClockS a k).2 k = (l_markClockS a k).1 := by
  rw [mark_ClockS]
  unfold l_heldClockS
  exact heldE (d := d_Clock) (mk := mk_Clock) (c := fun _ => 1) a k mkc_Clock (fun i k x hx _ _ => by unfold B_l_heldClockS_0; simp only [hx, mk_Clock, eq_self, decide_true, beq_self_eq_true, cond_true]) h0 h1
theorem mh_ClockS (a : List DClock) (k : Int) (h0 : 0 ≤ k) (h1 : k + (((1 : Nat) * a.length : Nat) : Int) ≤ 4611686018427387904) : l_heldClockS (l_markClockS a k).2 k = (l_markClockS a k).1 ∧ (l_markClockS a k).1 = k + (((1 : Nat) * a.length : Nat) : Int) ∧ (l_markClockS a k).2.length = a.length := by
  rw [← cntL_const] at h1 ⊢
  refine ⟨held_ClockS a k h0 h1, ?_, ?_⟩
  · rw [mark_ClockS]; exact mkL_cnt mkc_Clock a k h0 h1
  · rw [mark_ClockS]; exact mkL_length _ _ _
def mk_VLease (_ : DVLease) (k : Int) : Int × DVLease := (IntKind.wrap .i64 ((IntKind.wrap .i64 (k + 1)) + 1), ⟨k, IntKind.wrap .i64 (k + 1)⟩)
theorem mkc_VLease (x : DVLease) (k : Int) (h0 : 0 ≤ k) (h1 : k + ((2 : Nat) : Int) ≤ 4611686018427387904) : (mk_VLease x k).1 = k + ((2 : Nat) : Int) := by
  unfold mk_VLease
  simp only [IntKind.wrap_i64]; omega
theorem mark_VLeaseS (a : List DVLease) (k : Int) : l_markVLeaseS a k = mkL mk_VLease a k := by
  unfold l_markVLeaseS
  exact markE (d := d_VLease) (mk := mk_VLease) (fun i k xs hi => by unfold B_l_markVLeaseS_0; simp only [List.set_set, getD_set_self hi, mk_VLease]) a k
theorem held_VLeaseS (a : List DVLease) (k : Int) (h0 : 0 ≤ k) (h1 : k + (cntL (fun _ => 2) a : Int) ≤ 4611686018427387904) : l_heldVLeaseS (l_markVLeaseS a k).2 k = (l_markVLeaseS a k).1 := by
  rw [mark_VLeaseS]
  unfold l_heldVLeaseS
  exact heldE (d := d_VLease) (mk := mk_VLease) (c := fun _ => 2) a k mkc_VLease (fun i k x hx _ _ => by unfold B_l_heldVLeaseS_0; simp only [hx, mk_VLease, eq_self, decide_true, beq_self_eq_true, cond_true]) h0 h1
theorem mh_VLeaseS (a : List DVLease) (k : Int) (h0 : 0 ≤ k) (h1 : k + (((2 : Nat) * a.length : Nat) : Int) ≤ 4611686018427387904) : l_heldVLeaseS (l_markVLeaseS a k).2 k = (l_markVLeaseS a k).1 ∧ (l_markVLeaseS a k).1 = k + (((2 : Nat) * a.length : Nat) : Int) ∧ (l_markVLeaseS a k).2.length = a.length := by
  rw [← cntL_const] at h1 ⊢
  refine ⟨held_VLeaseS a k h0 h1, ?_, ?_⟩
  · rw [mark_VLeaseS]; exact mkL_cnt mkc_VLease a k h0 h1
  · rw [mark_VLeaseS]; exact mkL_length _ _ _
theorem mh_Renew (a : DRenew) (k : Int) (h0 : 0 ≤ k) (h1 : k + ((1 * a.Clocks.length + 2 * a.Leases.length : Nat) : Int) ≤ 4611686018427387904) : l_heldRenew (l_markRenew a k).2 k = (l_markRenew a k).1 ∧ (l_markRenew a k).1 = k + ((1 * a.Clocks.length + 2 * a.Leases.length : Nat) : Int) := by
  obtain ⟨e0, n0, _⟩ := mh_ClockS a.Clocks k (by omega) (by omega)
  obtain ⟨e1, n1, _⟩ := mh_VLeaseS a.Leases (k + ((1 * a.Clocks.length : Nat) : Int)) (by omega) (by omega)
  have q1 : l_heldRenew (l_markRenew a k).2 k = (k + ((1 * a.Clocks.length : Nat) : Int)) + ((2 * a.Leases.length : Nat) : Int) := by unfold l_heldRenew l_markRenew; simp only [e0, n0, e1, n1, decide_eq_false (show ¬ k + ((1 * a.Clocks.length : Nat) : Int) < 0 by omega), decide_eq_false (show ¬ (k + ((1 * a.Clocks.length : Nat) : Int)) + ((2 * a.Leases.length : Nat) : Int) < 0 by omega), cond_false]
  have q2 : (l_markRenew a k).1 = (k + ((1 * a.Clocks.length : Nat) : Int)) + ((2 * a.Leases.length : Nat) : Int) := by unfold l_markRenew; simp only [n0, n1]
  exact ⟨q1.trans q2.symm, q2.trans (by omega)⟩
theorem eta_markRenew (r : DRenew) (k : Int) : (⟨r.Now, r.Master, (l_markRenew r k).2.Clocks, r.Ver, (l_markRenew r k).2.Leases⟩ : DRenew) = (l_markRenew r k).2 := rfl
theorem f_l1In {n lo hi : Int} (h : s_l1In n lo hi = true) : lo ≤ n ∧ n ≤ hi := by
  unfold s_l1In at h
  obtain ⟨h1, h2⟩ := of_cond_f h
  exact ⟨of_decide_eq_true h1, of_decide_eq_true h2⟩
theorem f_within {n lo hi : Int} (h : i_within n lo hi = true) : lo ≤ n ∧ n ≤ hi := f_l1In h
theorem NewRenew_eq (n : Int) : i_NewRenew n = s_NewRenew n := rfl
theorem true_NewRenew (n : Int) (_ : wfI n) : l_FnExactNewRenew n = true := by
  have hc : 1 * (i_NewRenew n).1.Clocks.length + 2 * (i_NewRenew n).1.Leases.length ≤ 100 := by
    unfold i_NewRenew
    cases h : i_within n 1 3
    · show 1 * 0 + 2 * 0 ≤ 100; omega
    · have := f_within h
      simp only [cond_true, List.length_replicate]; omega
  obtain ⟨h1, h2⟩ := mh_Renew (i_NewRenew n).1 1 (by decide) (by omega)
  unfold l_FnExactNewRenew
  simp only [eta_markRenew, ← NewRenew_eq, eq_Renew, beq_self_eq_true, cond_true, h1]
  rw [h2, decide_eq_false (by omega), cond_false, decide_true]; rfl
end Go.Proofs.Ytfmepgbpbbneaaa
