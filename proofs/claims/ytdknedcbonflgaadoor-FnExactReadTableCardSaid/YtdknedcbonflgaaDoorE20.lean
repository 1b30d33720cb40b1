/- Pointers that are handed over: what a call may change beside what is new. -/
import Derived.Test.YtdknedcbonflgaaDoorE19
set_option linter.unusedVariables false
set_option linter.unusedSimpArgs false
namespace Go.X
open Go.RowKit
section
variable {P:Program}{o:Oper}{L:List (Nat×Value)}{w w' w0 w1:World}{R:Value→World→Prop}{p q:Nat→Prop}
theorem mG.not{ops:List Oper}{L0:List (Nat×Value)}{p0:Gh→Nat→Prop}{V:Nat→Gh→Value→World→Prop}{i g:Nat}{G:Gh}(h:mG ops L0 w0 p0 V i L w G)(hb:xD ops 24 g i=true):G.dn g=false:=by
 cases hg:G.dn g with
 | false=>rfl
 | true=>have:=h.st.cl g i hg hb;rw[h.new]at this;cases this
end
end Go.X
