/- Shorter words still, for claims that are too long. -/
import Derived.Test.YtdhfokkkpcelpaaGreatDoorE22
set_option linter.unusedVariables false
set_option linter.unusedSimpArgs false
namespace Go.X
open Go.RowKit
section
variable {P : Program} {n : Nat} {ops : Array Oper} {K : List (Nat × Value) → World → Prop} {o : Oper} {l : List Oper} {L : List (Nat × Value)} {w : World}
end
section
variable {P : Program} {n : Nat} {id : Nat} {ops : List Oper} {y : Code} {Q : Exit → List (Nat × Value) → World → Prop} {L : List (Nat × Value)} {w : World}
end
end Go.X
