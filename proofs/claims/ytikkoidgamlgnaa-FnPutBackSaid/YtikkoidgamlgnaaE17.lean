/- Append where there is no room: the old cells are only read. -/
import Derived.Test.YtikkoidgamlgnaaE16
set_option linter.unusedVariables false
set_option linter.unusedSimpArgs false
namespace Go.X
open Go.RowKit
section
variable {α:Type}{P:Program}{o:Oper}{L:List (Nat×Value)}{w:World}{Q:Value→World→Prop}{R:KF α}
end
end Go.X
