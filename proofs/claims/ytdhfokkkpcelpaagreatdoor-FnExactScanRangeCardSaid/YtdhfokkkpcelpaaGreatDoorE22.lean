/- append, told finely: the list stays where it was, or lies in what is new. -/
import Derived.Test.YtdhfokkkpcelpaaGreatDoorE21
set_option linter.unusedVariables false
set_option linter.unusedSimpArgs false
namespace Go.X
open Go.RowKit
section
variable {α : Type} {P : Program} {o : Oper} {L : List (Nat × Value)} {w : World} {Q : Value → World → Prop} {enc : α → List Value}
theorem Own.relo {w' : World} {lo E sz n c : Nat} {A : Option Addr} {cells : List Value} (h : Own w' lo E sz A n c cells) {lo2 : Nat} (h2 : ∀ g, blk A = some g → lo2 ≤ g) : Own w' lo2 E sz A n c cells := by
  obtain ⟨⟨h1, h3⟩, hn⟩ := h
  refine ⟨⟨h1, ?_⟩, hn⟩
  rcases h3 with h3 | ⟨g, cap, cur, hv, hg, r⟩
  · exact .inl h3
  · refine .inr ⟨g, cap, cur, hv, ?_, r⟩
    simp only [Value.slice.injEq] at hv
    exact h2 g (by rw [hv.1]; rfl)
end
end Go.X
