/- Comparing slices with nil, comparing structs; functions that write into what they are handed. -/
import Derived.Test.YtficefnmkcejlaaDoorE10
import Derived.Laws.StructEq
import Derived.Laws.Cover3
set_option linter.unusedVariables false
set_option linter.unusedSimpArgs false
namespace Go.X
open Go.RowKit
section
variable {P : Program} {o : Oper} {L : List (Nat × Value)} {w : World} {R : Value → World → Prop}
end
/-! ### Calls that write into what they are handed -/
def InR : List (Nat × Nat) → Nat → Prop
  | [], _ => False
  | p :: l, b => (p.1 ≤ b ∧ b < p.2) ∨ InR l b
inductive Mut (l : List (Nat × Nat)) : World → World → Prop
  | refl (w : World) : Mut l w w
  | ex {w w1 w2 : World} : Mut l w w1 → Ex w1 w2 → Mut l w w2
  | only {w w1 w2 : World} {b : Nat} : Mut l w w1 → Only b w1 w2 → InR l b → Mut l w w2
section
variable {l l' : List (Nat × Nat)} {w w' w0 : World} {α : Type} {R : Rel α} {sz n c : Nat} {A : Option Addr} {xs : List α}
theorem Mut.size (h : Mut l w w') : w.heap.size ≤ w'.heap.size := by
  induction h with
  | refl => exact Nat.le_refl _
  | ex _ e ih => exact Nat.le_trans ih (Ex.size e)
  | only _ e _ ih => rw [e.size]; exact ih
end
end Go.X
