/- Are Near: plain laws of the models. -/
import Derived.Test.YtnfjabkdlkejkaaAreNearT
set_option linter.unusedVariables false
set_option linter.unusedSimpArgs false
namespace Go.Proofs.Ytnfjabkdlkejkaa
open Go.RowKit Go.X
theorem to_Clock (x : DClock) : l_toClock x = x := rfl
theorem eq_Clock (x : DClock) : l_eqClock x x = true := by unfold l_eqClock; simp only [beq_self_eq_true, cond_true, decide_true]
theorem to_VLease (x : DVLease) : l_toVLease x = x := rfl
theorem eq_VLease (x : DVLease) : l_eqVLease x x = true := by unfold l_eqVLease; simp only [beq_self_eq_true, cond_true, decide_true]
theorem szok_ClockS {x : List DClock} {L : Int} (hw : (wfL wf_Clock) x) (hL : 0 ≤ L ∧ L ≤ 1048576) (h : ¬ l_szClockS x L < 0) : (okL okT) x ∧ 0 ≤ l_szClockS x L ∧ l_szClockS x L ≤ 1048576 := szLN_ok hw hL h
theorem to_ClockS (x : List DClock) : l_toClockS x = x := toL_id d_Clock (f := fun s => s) (fun _ => rfl) x
theorem eq_ClockS (x : List DClock) : l_eqClockS x x = true := eqL_refl d_Clock (f := l_eqClock) eq_Clock x
theorem szok_VLeaseS {x : List DVLease} {L : Int} (hw : (wfL wf_VLease) x) (hL : 0 ≤ L ∧ L ≤ 1048576) (h : ¬ l_szVLeaseS x L < 0) : (okL okT) x ∧ 0 ≤ l_szVLeaseS x L ∧ l_szVLeaseS x L ≤ 1048576 := szLN_ok hw hL h
theorem to_VLeaseS (x : List DVLease) : l_toVLeaseS x = x := toL_id d_VLease (f := fun s => s) (fun _ => rfl) x
theorem eq_VLeaseS (x : List DVLease) : l_eqVLeaseS x x = true := eqL_refl d_VLease (f := l_eqVLease) eq_VLease x
theorem szok_Renew {x : DRenew} {L : Int} (hw : wf_Renew x) (hL : 0 ≤ L ∧ L ≤ 1048576) (h : ¬ l_szRenew x L < 0) : ok_Renew x ∧ 0 ≤ l_szRenew x L ∧ l_szRenew x L ≤ 1048576 := by
  unfold l_szRenew at h ⊢
  obtain ⟨a0, e0, h⟩ := szc h
  rw [e0]
  have s0 := szok_ClockS hw.2.2.1 hL a0
  obtain ⟨a1, e1, h⟩ := szc h
  rw [e1]
  have s1 := szok_VLeaseS hw.2.2.2.2 s0.2 a1
  exact ⟨⟨s0.1, s1.1⟩, s1.2⟩
theorem to_Renew (x : DRenew) : l_toRenew x = x := rfl
theorem eq_Renew (x : DRenew) : l_eqRenew x x = true := by unfold l_eqRenew; simp only [eq_Clock, eq_ClockS, eq_VLeaseS, beq_self_eq_true, cond_true, decide_true]
theorem ContainsFunc_Clock (xs : List DClock) (f : DClock → Bool) : g_slices_ContainsFunc_Clock xs f = xs.any f := idxF_any f d_Clock xs
theorem ContainsFunc_VLease (xs : List DVLease) (f : DVLease → Bool) : g_slices_ContainsFunc_VLease xs f = xs.any f := idxF_any f d_VLease xs
theorem within_eq : i_within = s_l1In := rfl
theorem f_l1In {n lo hi : Int} (h : s_l1In n lo hi = true) : lo ≤ n ∧ n ≤ hi := by
  unfold s_l1In at h
  obtain ⟨h1, h2⟩ := of_cond_f h
  exact ⟨of_decide_eq_true h1, of_decide_eq_true h2⟩
theorem f_within {n lo hi : Int} (h : i_within n lo hi = true) : lo ≤ n ∧ n ≤ hi := f_l1In h
theorem GoodClock_eq (c : DClock) : i_GoodClock c = s_GoodClock c := rfl
theorem s_l28Clocks_eq (l : List DClock) : s_l28Clocks l = bif l.all s_GoodClock then s_l1In (l.length : Int) 1 3 else false := by
  unfold s_l28Clocks
  exact allE d_Clock s_GoodClock fun k => rfl
def leaseOk (v : Int) (l : DVLease) : Bool := bif s_l1In l.Ver 0 v then s_l1In l.Until 0 1020 else false
theorem s_GoodRenew_eq (r : DRenew) : s_GoodRenew r = (s_l1In r.Now 0 1000 && s_GoodClock r.Master && r.Clocks.all s_GoodClock && s_l1In (r.Clocks.length : Int) 1 3 && s_l1In r.Ver 0 20 && decide ((r.Leases.length : Int) = (r.Clocks.length : Int)) && r.Leases.all (leaseOk r.Ver)) := by
  unfold s_GoodRenew
  rw [s_l28Clocks_eq, allE d_VLease (leaseOk r.Ver) (r := false) fun k => by
    unfold B_s_GoodRenew_0 leaseOk
    cases s_l1In (r.Leases.getD k d_VLease).Ver 0 r.Ver <;> rfl]
  cases s_l1In r.Now 0 1000 <;> cases s_GoodClock r.Master <;> cases r.Clocks.all s_GoodClock <;> cases s_l1In (r.Clocks.length : Int) 1 3 <;> cases s_l1In r.Ver 0 20 <;> cases decide ((r.Leases.length : Int) = (r.Clocks.length : Int)) <;> cases r.Leases.all (leaseOk r.Ver) <;> rfl
theorem GoodRenew_eq (r : DRenew) : i_GoodRenew r = s_GoodRenew r := by
  rw [s_GoodRenew_eq]
  unfold i_GoodRenew
  rw [ContainsFunc_Clock, ContainsFunc_VLease, within_eq, GoodClock_eq]
  have h1 : r.Clocks.any (fun y => i_GoodRenew_c1 y) = !(r.Clocks.all s_GoodClock) := by
    rw [List.not_all_eq_any_not]; rfl
  have h2 : r.Leases.any (fun y => i_GoodRenew_c2 y r) = !(r.Leases.all (leaseOk r.Ver)) := by
    rw [List.not_all_eq_any_not]
    congr 1; funext y
    unfold i_GoodRenew_c2 leaseOk; rw [within_eq]
    cases s_l1In y.Ver 0 r.Ver <;> rfl
  rw [h1, h2]
  cases s_l1In r.Now 0 1000 <;> cases s_GoodClock r.Master <;> cases r.Clocks.all s_GoodClock <;> cases s_l1In (r.Clocks.length : Int) 1 3 <;> cases s_l1In r.Ver 0 20 <;> cases decide ((r.Leases.length : Int) = (r.Clocks.length : Int)) <;> cases r.Leases.all (leaseOk r.Ver) <;> rfl
theorem f_s_GoodRenew {r : DRenew} (h : s_GoodRenew r = true) : r.Leases.length = r.Clocks.length ∧ (r.Clocks.length : Int) ≤ 3 := by
  rw [s_GoodRenew_eq] at h
  simp only [Bool.and_eq_true, decide_eq_true_eq] at h
  have := f_l1In h.1.1.1.2
  omega
theorem f_i_GoodRenew {r : DRenew} (h : i_GoodRenew r = true) : r.Leases.length = r.Clocks.length ∧ (r.Clocks.length : Int) ≤ 3 := f_s_GoodRenew (GoodRenew_eq r ▸ h)
theorem Max_spec {xs : List Int} (h : 0 < xs.length) : g_slices_Max_int xs ∈ xs ∧ ∀ x ∈ xs, x ≤ g_slices_Max_int xs := by
  unfold g_slices_Max_int
  refine loopM_val (fun k m => m ∈ xs ∧ ∀ i, i < k → (hi : i < xs.length) → xs[i] ≤ m) (fun v => v ∈ xs ∧ ∀ x ∈ xs, x ≤ v) ⟨getD_mem h, fun i hi hl => by
    obtain rfl : i = 0 := by omega
    rw [getD_eq hl]; exact Int.le_refl _⟩ ?_ ?_
  · intro s hs
    exact ⟨hs.1, fun x hx => by
      obtain ⟨i, hi, rfl⟩ := List.getElem_of_mem hx
      exact hs.2 i (by omega) hi⟩
  · intro j s _ hj hs
    have hj' : j < xs.length := by omega
    show max s (xs.getD j d_Int) ∈ xs ∧ _
    rw [getD_eq hj']
    refine ⟨?_, fun i hi hl => ?_⟩
    · rcases Int.le_total s xs[j] with h | h
      · rw [Int.max_eq_right h]; exact List.getElem_mem hj'
      · rw [Int.max_eq_left h]; exact hs.1
    · rcases Nat.lt_or_ge i j with h | h
      · have := hs.2 i h hl; omega
      · obtain rfl : i = j := by omega
        omega
theorem Min_spec {xs : List Int} (h : 0 < xs.length) : g_slices_Min_int xs ∈ xs ∧ ∀ x ∈ xs, g_slices_Min_int xs ≤ x := by
  unfold g_slices_Min_int
  refine loopM_val (fun k m => m ∈ xs ∧ ∀ i, i < k → (hi : i < xs.length) → m ≤ xs[i]) (fun v => v ∈ xs ∧ ∀ x ∈ xs, v ≤ x) ⟨getD_mem h, fun i hi hl => by
    obtain rfl : i = 0 := by omega
    rw [getD_eq hl]; exact Int.le_refl _⟩ ?_ ?_
  · intro s hs
    exact ⟨hs.1, fun x hx => by
      obtain ⟨i, hi, rfl⟩ := List.getElem_of_mem hx
      exact hs.2 i (by omega) hi⟩
  · intro j s _ hj hs
    have hj' : j < xs.length := by omega
    show min s (xs.getD j d_Int) ∈ xs ∧ _
    rw [getD_eq hj']
    refine ⟨?_, fun i hi hl => ?_⟩
    · rcases Int.le_total s xs[j] with h | h
      · rw [Int.min_eq_left h]; exact hs.1
      · rw [Int.min_eq_right h]; exact List.getElem_mem hj'
    · rcases Nat.lt_or_ge i j with h | h
      · have := hs.2 i h hl; omega
      · obtain rfl : i = j := by omega
        omega
theorem usable_eq (r : DRenew) (n : Int) : i_Renew_usable r n = s_l28Usable r n := rfl
theorem AreNear_eq (r : DRenew) : i_AreNear r = s_AreNear r := by
  unfold i_AreNear s_AreNear
  rw [GoodRenew_eq]
  cases hg : s_GoodRenew r
  · rfl
  simp only [cond_true]
  have hver : ∀ k, k < r.Leases.length → 0 ≤ (r.Leases.getD k d_VLease).Ver ∧ (r.Leases.getD k d_VLease).Ver ≤ 20 := by
    intro k hk
    rw [s_GoodRenew_eq] at hg
    simp only [Bool.and_eq_true] at hg
    have h1 := List.all_eq_true.1 hg.2 _ (getD_mem (d := d_VLease) hk)
    unfold leaseOk at h1
    have h2 := f_l1In (of_cond_f h1).1
    have h3 := f_l1In hg.1.1.2
    omega
  -- the specification's answer
  have hs : loopE (loopM (B_s_AreNear_0 r) (r.Leases.length - 0) 0 ()) (fun r => r) (fun _ => (true, true)) = (decide (∀ i, i < r.Leases.length → ∀ k, k < r.Leases.length → s_l28Usable r (i : Int) = true → s_l28Usable r (k : Int) = true → (r.Leases.getD i d_VLease).Ver - (r.Leases.getD k d_VLease).Ver ≤ 1), true) := by
    have hin : ∀ i, i < r.Leases.length → B_s_AreNear_0 r i () = bif (List.range r.Leases.length).all (fun k => !(s_l28Usable r (i : Int) && s_l28Usable r (k : Int) && decide (1 < (r.Leases.getD i d_VLease).Ver - (r.Leases.getD k d_VLease).Ver))) then .cont () else .ret (false, true) := by
      intro i hi
      unfold B_s_AreNear_0
      exact loopU (fun k => !(s_l28Usable r (i : Int) && s_l28Usable r (k : Int) && decide (1 < (r.Leases.getD i d_VLease).Ver - (r.Leases.getD k d_VLease).Ver))) (r := (false, true)) fun k hk => by
        unfold B_s_AreNear_1
        have h1 := hver i hi
        have h2 := hver k hk
        rw [wrap_in (by omega)]
        cases s_l28Usable r (i : Int) <;> cases s_l28Usable r (k : Int) <;> cases decide (1 < (r.Leases.getD i d_VLease).Ver - (r.Leases.getD k d_VLease).Ver) <;> rfl
    rw [loopU _ hin]
    rw [show ∀ b : Bool, (bif b then (true, true) else (false, true)) = (b, true) by decide]
    congr 1
    rw [Bool.eq_iff_iff, decide_eq_true_iff, List.all_eq_true]
    constructor
    · intro h i hi k hk hui huk
      have := List.all_eq_true.1 (h i (List.mem_range.2 hi)) k (List.mem_range.2 hk)
      rw [hui, huk] at this
      simp only [Bool.and_true, Bool.true_and, Bool.not_eq_true', decide_eq_false_iff_not] at this
      omega
    · intro h i hi
      rw [List.all_eq_true]
      intro k hk
      have := h i (List.mem_range.1 hi) k (List.mem_range.1 hk)
      cases hui : s_l28Usable r (i : Int) <;> cases huk : s_l28Usable r (k : Int) <;> simp only [Bool.and_true, Bool.and_false, Bool.true_and, Bool.false_and, Bool.not_false, Bool.not_eq_true', decide_eq_false_iff_not]
      have := this hui huk
      omega
  rw [hs]
  refine loopM_val (fun k (x : List Int) => ∀ v, v ∈ x ↔ ∃ i, i < k ∧ i < r.Leases.length ∧ s_l28Usable r (i : Int) = true ∧ v = (r.Leases.getD i d_VLease).Ver) (fun v => v = _) (fun v => by simp) ?_ ?_
  · intro s hs
    have hs : ∀ v, v ∈ s ↔ ∃ i, i < r.Leases.length ∧ s_l28Usable r (i : Int) = true ∧ v = (r.Leases.getD i d_VLease).Ver := by
      intro v; rw [hs v]
      constructor
      · rintro ⟨i, _, h⟩; exact ⟨i, h⟩
      · rintro ⟨i, h⟩; exact ⟨i, by omega, h⟩
    by_cases h0 : (s.length : Int) = 0
    · have hnil : s = [] := List.eq_nil_of_length_eq_zero (by omega)
      simp only [h0, decide_true, cond_true]
      congr 1
      symm
      rw [decide_eq_true_iff]
      intro i hi k hk hui _
      have := (hs (r.Leases.getD i d_VLease).Ver).2 ⟨i, hi, hui, rfl⟩
      rw [hnil] at this; cases this
    · simp only [h0, decide_false, cond_false]
      have hp : 0 < s.length := by omega
      obtain ⟨m1, m2⟩ := Max_spec hp
      obtain ⟨n1, n2⟩ := Min_spec hp
      obtain ⟨i, hi, hui, hmx⟩ := (hs _).1 m1
      obtain ⟨k, hk, huk, hmn⟩ := (hs _).1 n1
      have h1 := hver i hi
      have h2 := hver k hk
      rw [hmx, hmn, wrap_in (by omega)]
      congr 1
      rw [Bool.eq_iff_iff, decide_eq_true_iff, decide_eq_true_iff]
      constructor
      · intro h i' hi' k' hk' hu hu'
        have a1 := m2 _ ((hs _).2 ⟨i', hi', hu, rfl⟩)
        have a2 := n2 _ ((hs _).2 ⟨k', hk', hu', rfl⟩)
        omega
      · intro h; exact h i hi k hk hui huk
  · intro j s _ hj hs
    have hj' : j < r.Leases.length := by omega
    unfold B_i_AreNear_0
    rw [usable_eq]
    cases hu : s_l28Usable r (j : Int)
    · intro v
      rw [hs v]
      constructor
      · rintro ⟨i, h1, h2⟩; exact ⟨i, by omega, h2⟩
      · rintro ⟨i, h1, h2, h3, h4⟩
        have : i ≠ j := fun h => by rw [h, hu] at h3; cases h3
        exact ⟨i, by omega, h2, h3, h4⟩
    · intro v
      rw [List.mem_append, hs v, List.mem_singleton]
      constructor
      · rintro (⟨i, h1, h2⟩ | h)
        · exact ⟨i, by omega, h2⟩
        · exact ⟨j, by omega, hj', hu, h⟩
      · rintro ⟨i, h1, h2, h3, h4⟩
        rcases Nat.lt_or_ge i j with h | h
        · exact .inl ⟨i, h, h2, h3, h4⟩
        · obtain rfl : i = j := by omega
          exact .inr h4
theorem true_AreNear (r : DRenew) (_ : wf_Renew r) : l_FnExactAreNear r = true := by
  unfold l_FnExactAreNear
  simp only [AreNear_eq, eq_Renew, beq_self_eq_true, cond_true, Bool.cond_self]

end Go.Proofs.Ytnfjabkdlkejkaa
