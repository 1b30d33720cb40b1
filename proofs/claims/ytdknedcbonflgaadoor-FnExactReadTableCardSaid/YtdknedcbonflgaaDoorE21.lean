/- Bits, remainders; bytes out of a text. -/
import Derived.Test.YtdknedcbonflgaaDoorE20
import Derived.Lib.ConvBytes
set_option linter.unusedVariables false
set_option linter.unusedSimpArgs false
namespace Go.X
open Go.RowKit
section
variable {P:Program}{o:Oper}{L:List (Nat×Value)}{w:World}{R:Value→World→Prop}
end
def SI(l:List Int):Prop:=∀x∈l,0≤x∧x≤255
theorem SI.drop{l:List Int}(h:SI l)(k:Nat):SI (l.drop k):=fun x hx=>h x (List.mem_of_mem_drop hx)
end Go.X
