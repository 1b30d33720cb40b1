/- An append of elements that are older than the list that the call makes. -/
import Derived.Test.YtdhfokkkpcelpaaGreatDoorE25
set_option linter.unusedVariables false
set_option linter.unusedSimpArgs false
namespace Go.X
open Go.RowKit
section
variable {α : Type} {P : Program} {o : Oper} {L : List (Nat × Value)} {w : World} {Q : Value → World → Prop} {R : Rel α}
end
end Go.X
