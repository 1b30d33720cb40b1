import Derived.Test.YtdknedcbonflgaaDoorE33
import Derived.Shelf.Strconv.Itoa3
/-! strconv.Itoa at one digit: the library's contract, said in this engine's words. -/
set_option linter.unusedVariables false
set_option linter.unusedSimpArgs false
namespace Go.X
open Go.RowKit Go.Proofs Go.Shelf
theorem iK{P:Program}{ρ:Go.Shelf.Ren}(L:Go.Proofs.Lays.n171 P ρ)(i:Int)(h:0≤i∧i≤9)(w:World):OD P (ρ.f 171) #[.int .i64 i] w fun v w'=>v=.string (bs [(48+i).toNat.toUInt8])∧bD [(48+i).toNat.toUInt8]∧Ex w w':=by
 obtain⟨k,rfl⟩:∃k:Nat,i=(k:Int):=⟨i.toNat,by omega⟩
 refine Calls.mono (Any.strconv_Itoa_small L k oM w) ?_
 rintro e w' ⟨he,rfl⟩
 rw[Lib.decDigits_one oM]at he
 have hk:(48+(k:Int)).toNat=48+k:=by omega
 rw[hk]
 exact⟨_,he,rfl,show 1≤1073741824 by decide,HA _⟩
end Go.X
