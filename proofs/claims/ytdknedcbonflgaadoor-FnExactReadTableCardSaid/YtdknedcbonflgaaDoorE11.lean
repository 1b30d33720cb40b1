/- Comparing slices with nil, comparing structs; functions that write into what they are handed. -/
import Derived.Test.YtdknedcbonflgaaDoorE10
import Derived.Laws.StructEq
import Derived.Laws.Cover3
set_option linter.unusedVariables false
set_option linter.unusedSimpArgs false
namespace Go.X
open Go.RowKit
section
variable {P:Program}{o:Oper}{L:List (Nat×Value)}{w:World}{R:Value→World→Prop}
end
/-! ### Calls that write into what they are handed -/
def lG:List (Nat×Nat)→Nat→Prop
 | [],_=>False
 | p::l,b=>(p.1≤b∧b<p.2)∨lG l b
inductive UD (l:List (Nat×Nat)):World→World→Prop
 | refl (w:World):UD l w w
 | ex {w w1 w2:World}:UD l w w1→Ex w1 w2→UD l w w2
 | only{w w1 w2:World}{b:Nat}:UD l w w1→bF b w1 w2→lG l b→UD l w w2
section
variable {l l':List (Nat×Nat)}{w w' w0:World}{α:Type}{R:WE α}{sz n c:Nat}{A:Option Addr}{xs:List α}
theorem UD.size(h:UD l w w'):w.heap.size≤w'.heap.size:=by
 induction h with
 | refl=>exact Nat.le_refl _
 | ex _ e ih=>exact Nat.le_trans ih (Ex.size e)
 | only _ e _ ih=>rw[e.size];exact ih
theorem UD.carry{F:World→Prop}(h:UD l w w')(hf:F w)(h1:∀w1 w2,F w1→Ex w1 w2→F w2)(h2:∀w1 w2 b,F w1→bF b w1 w2→lG l b→F w2):F w':=by
 induction h with
 | refl=>exact hf
 | ex _ e ih=>exact h1 _ _ ih e
 | only _ e hb ih=>exact h2 _ _ _ ih e hb
theorem Ex.mut(h:Ex w0 w)(e:UD l w w')(hd:∀k,lG l k→w0.heap.size≤k):Ex w0 w':=
 e.carry (F:=fun w=>Ex w0 w) h (fun _ _ h e=>Ex.trans h e) (fun _ _ b h e hb=>Below.only h e (hd b hb))
theorem UD.mut(h:UD l w0 w)(e:UD l' w w')(hd:∀k,lG l' k→lG l k):UD l w0 w':=
 e.carry (F:=fun w=>UD l w0 w) h (fun _ _ h e=>.ex h e) (fun _ _ b h e hb=>.only h e (hd b hb))
theorem eD.mut{b:Nat}{T:TypeId}{cs:List Value}(h:eD w b T cs)(e:UD l w w')(hd:∀k,lG l k→b≠k):eD w' b T cs:=
 e.carry (F:=fun w=>eD w b T cs) h (fun _ _ h e=>eD.ex h e) (fun _ _ k h e hk=>eD.only h e (hd k hk))
theorem nC.mut{S:Nat→Prop}(hg:Gd R)(h:nC w S R sz A n c xs)(e:UD l w w')(hd:∀k,lG l k→¬S k):nC w' S R sz A n c xs:=
 e.carry (F:=fun w=>nC w S R sz A n c xs) h (fun _ _ h e=>nC.ex hg h e) (fun _ _ k h e hk=>nC.only hg h e (hd k hk))
theorem dB.mut{lo hi E:Nat}(hg:Gd R)(h:dB w lo hi E sz R A n c xs)(e:UD l w w')(hd:∀k,lG l k→k<lo∨hi≤k):dB w' lo hi E sz R A n c xs:=
 e.carry (F:=fun w=>dB w lo hi E sz R A n c xs) h (fun _ _ h e=>dB.ex hg h e) (fun _ _ k h e hk=>dB.only hg h e (hd k hk))
end
end Go.X
