/- Pointers that are handed over: what a call may change beside what is new. -/
import Derived.Test.YtdhfokkkpcelpaaGreatDoorE19
set_option linter.unusedVariables false
set_option linter.unusedSimpArgs false
namespace Go.X
open Go.RowKit
section
variable {P : Program} {o : Oper} {L : List (Nat × Value)} {w w' w0 w1 : World} {R : Value → World → Prop} {p q : Nat → Prop}
theorem KnownG.not {ops : List Oper} {L0 : List (Nat × Value)} {p0 : Gh → Nat → Prop} {V : Nat → Gh → Value → World → Prop} {i g : Nat} {G : Gh} (h : KnownG ops L0 w0 p0 V i L w G) (hb : behind ops 24 g i = true) : G.dn g = false := by
  cases hg : G.dn g with
  | false => rfl
  | true => have := h.st.cl g i hg hb; rw [h.new] at this; cases this
theorem KnownG.no {ops : List Oper} {L0 : List (Nat × Value)} {p0 : Gh → Nat → Prop} {V : Nat → Gh → Value → World → Prop} {i j : Nat} {G : Gh} {X Y : Prop} (h : KnownG ops L0 w0 p0 V i L w G) (hb : behind ops 24 j i = true) (h1 : G.dn j = true ∧ X) : Y := by
  have := h.not hb; rw [h1.1] at this; cases this
theorem KnownG.nw {ops : List Oper} {L0 : List (Nat × Value)} {p0 : Gh → Nat → Prop} {V : Nat → Gh → Value → World → Prop} {i : Nat} {G : Gh} {X Y : Prop} (h : KnownG ops L0 w0 p0 V i L w G) (h1 : G.dn i = true ∧ X) : Y := by
  have := h.new; rw [h1.1] at this; cases this
end
end Go.X
