/- Powers At: plain laws of the models. -/
import Derived.Test.YtnfjabkdlkejkaaPowersAtT
namespace Go.Proofs.Ytnfjabkdlkejkaa
open Go.RowKit Go.X
theorem within_eq : i_within = s_l1In := rfl
theorem f_l1In {n lo hi : Int} (h : s_l1In n lo hi = true) : lo ≤ n ∧ n ≤ hi := by
  unfold s_l1In at h
  obtain ⟨h1, h2⟩ := of_cond_f h
  exact ⟨of_decide_eq_true h1, of_decide_eq_true h2⟩
theorem true_PowersAt (x : Int) (_ : wfI x) : l_FnExactPowersAt x = true := by
  have : i_PowersAt x = s_PowersAt x := by
    unfold i_PowersAt s_PowersAt i_isStage
    rw [within_eq]
    cases h : s_l1In x 0 3
    · rfl
    · have := f_l1In h
      have e : decide (x = 3) = decide (3 ≤ x) := by rw [Bool.eq_iff_iff, decide_eq_true_iff, decide_eq_true_iff]; omega
      rw [e]; rfl
  unfold l_FnExactPowersAt
  simp only [this, beq_self_eq_true, cond_true]
end Go.Proofs.Ytnfjabkdlkejkaa
