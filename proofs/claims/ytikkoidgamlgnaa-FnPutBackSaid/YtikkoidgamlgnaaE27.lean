/- Lists whose elements change places: where the list's block lies after an append; an element that is read keeps off the list's own block. -/
import Derived.Test.YtikkoidgamlgnaaE26
set_option linter.unusedVariables false
set_option linter.unusedSimpArgs false
namespace Go.X
open Go.RowKit
section
variable {α:Type}{P:Program}{o:Oper}{L:List (Nat×Value)}{w:World}{Q:Value→World→Prop}{R:KF α}
end
end Go.X
