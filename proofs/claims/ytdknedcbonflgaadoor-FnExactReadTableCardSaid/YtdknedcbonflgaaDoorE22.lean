/- append, told finely: the list stays where it was, or lies in what is new. -/
import Derived.Test.YtdknedcbonflgaaDoorE21
set_option linter.unusedVariables false
set_option linter.unusedSimpArgs false
namespace Go.X
open Go.RowKit
section
variable {α:Type}{P:Program}{o:Oper}{L:List (Nat×Value)}{w:World}{Q:Value→World→Prop}{enc:α→List Value}
end
end Go.X
