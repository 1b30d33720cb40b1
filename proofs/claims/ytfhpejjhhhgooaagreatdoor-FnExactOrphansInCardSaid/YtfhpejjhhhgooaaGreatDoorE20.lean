/- Pointers that are handed over: what a call may change beside what is new. -/
import Derived.Test.YtfhpejjhhhgooaaGreatDoorE19
set_option linter.unusedVariables false
set_option linter.unusedSimpArgs false
namespace Go.X
open Go.RowKit
section
variable {P : Program} {o : Oper} {L : List (Nat × Value)} {w w' w0 w1 : World} {R : Value → World → Prop} {p q : Nat → Prop}
end
end Go.X
