/- Texts that are cut at a byte. -/
import Derived.Test.YtikkoidgamlgnaaE15
set_option linter.unusedVariables false
set_option linter.unusedSimpArgs false
namespace Go.X
open Go.RowKit
def sp(c:UInt8):tB→List tB
 | []=>[[]]
 | b::s=>if b=c then[]::sp c s else((b::(sp c s).headD [])::(sp c s).tail)
end Go.X
