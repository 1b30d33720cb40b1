/- Usable In: plain laws of the models. -/
import Derived.Test.YtnfjabkdlkejkaaUsableInT
set_option linter.unusedVariables false
set_option linter.unusedSimpArgs false
namespace Go.Proofs.Ytnfjabkdlkejkaa
open Go.RowKit Go.X
theorem to_Clock (x : DClock) : l_toClock x = x := rfl
theorem eq_Clock (x : DClock) : l_eqClock x x = true := by unfold l_eqClock; simp only [beq_self_eq_true, cond_true, decide_true]
theorem to_VLease (x : DVLease) : l_toVLease x = x := rfl
theorem eq_VLease (x : DVLease) : l_eqVLease x x = true := by unfold l_eqVLease; simp only [beq_self_eq_true, cond_true, decide_true]
theorem szok_ClockS {x : List DClock} {L : Int} (hw : (wfL wf_Clock) x) (hL : 0 ≤ L ∧ L ≤ 1048576) (h : ¬ l_szClockS x L < 0) : (okL okT) x ∧ 0 ≤ l_szClockS x L ∧ l_szClockS x L ≤ 1048576 := szLN_ok hw hL h
theorem to_ClockS (x : List DClock) : l_toClockS x = x := toL_id d_Clock (f := fun s => s) (fun _ => rfl) x
theorem eq_ClockS (x : List DClock) : l_eqClockS x x = true := eqL_refl d_Clock (f := l_eqClock) eq_Clock x
theorem szok_VLeaseS {x : List DVLease} {L : Int} (hw : (wfL wf_VLease) x) (hL : 0 ≤ L ∧ L ≤ 1048576) (h : ¬ l_szVLeaseS x L < 0) : (okL okT) x ∧ 0 ≤ l_szVLeaseS x L ∧ l_szVLeaseS x L ≤ 1048576 := szLN_ok hw hL h
theorem to_VLeaseS (x : List DVLease) : l_toVLeaseS x = x := toL_id d_VLease (f := fun s => s) (fun _ => rfl) x
theorem eq_VLeaseS (x : List DVLease) : l_eqVLeaseS x x = true := eqL_refl d_VLease (f := l_eqVLease) eq_VLease x
theorem szok_Renew {x : DRenew} {L : Int} (hw : wf_Renew x) (hL : 0 ≤ L ∧ L ≤ 1048576) (h : ¬ l_szRenew x L < 0) : ok_Renew x ∧ 0 ≤ l_szRenew x L ∧ l_szRenew x L ≤ 1048576 := by
  unfold l_szRenew at h ⊢
  obtain ⟨a0, e0, h⟩ := szc h
  rw [e0]
  have s0 := szok_ClockS hw.2.2.1 hL a0
  obtain ⟨a1, e1, h⟩ := szc h
  rw [e1]
  have s1 := szok_VLeaseS hw.2.2.2.2 s0.2 a1
  exact ⟨⟨s0.1, s1.1⟩, s1.2⟩
theorem to_Renew (x : DRenew) : l_toRenew x = x := rfl
theorem eq_Renew (x : DRenew) : l_eqRenew x x = true := by unfold l_eqRenew; simp only [eq_Clock, eq_ClockS, eq_VLeaseS, beq_self_eq_true, cond_true, decide_true]
theorem ContainsFunc_Clock (xs : List DClock) (f : DClock → Bool) : g_slices_ContainsFunc_Clock xs f = xs.any f := idxF_any f d_Clock xs
theorem ContainsFunc_VLease (xs : List DVLease) (f : DVLease → Bool) : g_slices_ContainsFunc_VLease xs f = xs.any f := idxF_any f d_VLease xs
theorem within_eq : i_within = s_l1In := rfl
theorem f_l1In {n lo hi : Int} (h : s_l1In n lo hi = true) : lo ≤ n ∧ n ≤ hi := by
  unfold s_l1In at h
  obtain ⟨h1, h2⟩ := of_cond_f h
  exact ⟨of_decide_eq_true h1, of_decide_eq_true h2⟩
theorem f_within {n lo hi : Int} (h : i_within n lo hi = true) : lo ≤ n ∧ n ≤ hi := f_l1In h
theorem GoodClock_eq (c : DClock) : i_GoodClock c = s_GoodClock c := rfl
theorem s_l28Clocks_eq (l : List DClock) : s_l28Clocks l = bif l.all s_GoodClock then s_l1In (l.length : Int) 1 3 else false := by
  unfold s_l28Clocks
  exact allE d_Clock s_GoodClock fun k => rfl
def leaseOk (v : Int) (l : DVLease) : Bool := bif s_l1In l.Ver 0 v then s_l1In l.Until 0 1020 else false
theorem s_GoodRenew_eq (r : DRenew) : s_GoodRenew r = (s_l1In r.Now 0 1000 && s_GoodClock r.Master && r.Clocks.all s_GoodClock && s_l1In (r.Clocks.length : Int) 1 3 && s_l1In r.Ver 0 20 && decide ((r.Leases.length : Int) = (r.Clocks.length : Int)) && r.Leases.all (leaseOk r.Ver)) := by
  unfold s_GoodRenew
  rw [s_l28Clocks_eq, allE d_VLease (leaseOk r.Ver) (r := false) fun k => by
    unfold B_s_GoodRenew_0 leaseOk
    cases s_l1In (r.Leases.getD k d_VLease).Ver 0 r.Ver <;> rfl]
  cases s_l1In r.Now 0 1000 <;> cases s_GoodClock r.Master <;> cases r.Clocks.all s_GoodClock <;> cases s_l1In (r.Clocks.length : Int) 1 3 <;> cases s_l1In r.Ver 0 20 <;> cases decide ((r.Leases.length : Int) = (r.Clocks.length : Int)) <;> cases r.Leases.all (leaseOk r.Ver) <;> rfl
theorem GoodRenew_eq (r : DRenew) : i_GoodRenew r = s_GoodRenew r := by
  rw [s_GoodRenew_eq]
  unfold i_GoodRenew
  rw [ContainsFunc_Clock, ContainsFunc_VLease, within_eq, GoodClock_eq]
  have h1 : r.Clocks.any (fun y => i_GoodRenew_c1 y) = !(r.Clocks.all s_GoodClock) := by
    rw [List.not_all_eq_any_not]; rfl
  have h2 : r.Leases.any (fun y => i_GoodRenew_c2 y r) = !(r.Leases.all (leaseOk r.Ver)) := by
    rw [List.not_all_eq_any_not]
    congr 1; funext y
    unfold i_GoodRenew_c2 leaseOk; rw [within_eq]
    cases s_l1In y.Ver 0 r.Ver <;> rfl
  rw [h1, h2]
  cases s_l1In r.Now 0 1000 <;> cases s_GoodClock r.Master <;> cases r.Clocks.all s_GoodClock <;> cases s_l1In (r.Clocks.length : Int) 1 3 <;> cases s_l1In r.Ver 0 20 <;> cases decide ((r.Leases.length : Int) = (r.Clocks.length : Int)) <;> cases r.Leases.all (leaseOk r.Ver) <;> rfl
theorem f_s_GoodRenew {r : DRenew} (h : s_GoodRenew r = true) : r.Leases.length = r.Clocks.length ∧ (r.Clocks.length : Int) ≤ 3 := by
  rw [s_GoodRenew_eq] at h
  simp only [Bool.and_eq_true, decide_eq_true_eq] at h
  have := f_l1In h.1.1.1.2
  omega
theorem f_i_GoodRenew {r : DRenew} (h : i_GoodRenew r = true) : r.Leases.length = r.Clocks.length ∧ (r.Clocks.length : Int) ≤ 3 := f_s_GoodRenew (GoodRenew_eq r ▸ h)
theorem UsableIn_eq (r : DRenew) (n : Int) : i_UsableIn r n = s_UsableIn r n := by
  unfold i_UsableIn s_UsableIn
  rw [GoodRenew_eq, within_eq]
  rfl
theorem true_UsableIn (r : DRenew) (n : Int) (_ : wf_Renew r) (_ : wfI n) : l_FnExactUsableIn r n = true := by
  unfold l_FnExactUsableIn
  simp only [UsableIn_eq, eq_Renew, beq_self_eq_true, cond_true, Bool.cond_self, decide_true]
end Go.Proofs.Ytnfjabkdlkejkaa
