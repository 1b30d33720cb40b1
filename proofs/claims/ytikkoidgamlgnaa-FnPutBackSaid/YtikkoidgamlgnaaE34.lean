/- Elements that nobody looks into: a list of them is a list of numbers, cl tells each number's cell; a change of one block as a step of Mut. -/
import Derived.Test.YtikkoidgamlgnaaE33
set_option linter.unusedVariables false
set_option linter.unusedSimpArgs false
namespace Go.X
open Go.RowKit
section
variable {cl:Nat→Value}
end
end Go.X
