/- Bits, remainders; bytes out of a text. -/
import Derived.Test.YtdhfokkkpcelpaaGreatDoorE20
import Derived.Lib.ConvBytes
set_option linter.unusedVariables false
set_option linter.unusedSimpArgs false
namespace Go.X
open Go.RowKit
section
variable {P : Program} {o : Oper} {L : List (Nat × Value)} {w : World} {R : Value → World → Prop}
end
def codeOk (l : List Int) : Prop := ∀ x ∈ l, 0 ≤ x ∧ x ≤ 255
theorem codeOk.drop {l : List Int} (h : codeOk l) (k : Nat) : codeOk (l.drop k) := fun x hx => h x (List.mem_of_mem_drop hx)
end Go.X
