/- Comparing slices with nil, comparing structs; functions that write into what they are handed. -/
import Derived.Test.YtoimdjojffkefaaGreatDoorE10
import Derived.Laws.StructEq
import Derived.Laws.Cover3
set_option linter.unusedVariables false
set_option linter.unusedSimpArgs false
namespace Go.X
open Go.RowKit
section
variable {P:Program}{o:Oper}{L:List (Nat×Value)}{w:World}{R:Value→World→Prop}
theorem YS{x y:Operand}{t t' e:TypeId}{A:Option Addr}{n c:Nat}(hu:P.underlying t=some (.slice e))(ho:o.op=.binOp .eql t x y t')(hx:nF L x=some (.slice A n c))(hy:nF L y=some (.slice none 0 0))(hR:R (.bool A.isNone) w):Yl P o L w R:=
 .val (fun ρ hρ=>by
  have e:binOp .eql t (.slice A n c) (.slice none 0 0)=(do pure (.bool (←Op.equal t (.slice A n c) (.slice none 0 0)))):=rfl
  simp only[execOp,ho,hρ x _ hx,hρ y _ hy,Sem.run_bind,WJ .eql t x y (.slice A n c) (.slice none 0 0) rfl,Result.andThen_ok,e,run_equal_slice_nil w t _ A n c hu,Sem.run_pure]) hR
end
theorem IC.nilA{α:Type}{w:World}{S:Nat→Prop}{R:qJ α}{sz n c:Nat}{A:Option Addr}{xs:List α}(h:IC w S R sz A n c xs)(hA:A.isNone=true):xs=[]:=by
 obtain⟨_,_,_,cells,_,h | ⟨b,off,hb,_⟩⟩:=h
 ·exact h
 ·subst hb;cases hA
/-! ### Calls that write into what they are handed -/
def JK:List (Nat×Nat)→Nat→Prop
 | [],_=>False
 | p::l,b=>(p.1≤b∧b<p.2)∨JK l b
inductive jG (l:List (Nat×Nat)):World→World→Prop
 | refl (w:World):jG l w w
 | ex {w w1 w2:World}:jG l w w1→Ex w1 w2→jG l w w2
 | only{w w1 w2:World}{b:Nat}:jG l w w1→sK b w1 w2→JK l b→jG l w w2
section
variable {l l':List (Nat×Nat)}{w w' w0:World}{α:Type}{R:qJ α}{sz n c:Nat}{A:Option Addr}{xs:List α}
theorem jG.size(h:jG l w w'):w.heap.size≤w'.heap.size:=by
 induction h with
 | refl=>exact Nat.le_refl _
 | ex _ e ih=>exact Nat.le_trans ih (Ex.size e)
 | only _ e _ ih=>rw[e.size];exact ih
theorem jG.carry{F:World→Prop}(h:jG l w w')(hf:F w)(h1:∀w1 w2,F w1→Ex w1 w2→F w2)(h2:∀w1 w2 b,F w1→sK b w1 w2→JK l b→F w2):F w':=by
 induction h with
 | refl=>exact hf
 | ex _ e ih=>exact h1 _ _ ih e
 | only _ e hb ih=>exact h2 _ _ _ ih e hb
theorem Ex.mut(h:Ex w0 w)(e:jG l w w')(hd:∀k,JK l k→w0.heap.size≤k):Ex w0 w':=
 e.carry (F:=fun w=>Ex w0 w) h (fun _ _ h e=>Ex.trans h e) (fun _ _ b h e hb=>Below.only h e (hd b hb))
theorem jG.mut(h:jG l w0 w)(e:jG l' w w')(hd:∀k,JK l' k→JK l k):jG l w0 w':=
 e.carry (F:=fun w=>jG l w0 w) h (fun _ _ h e=>.ex h e) (fun _ _ b h e hb=>.only h e (hd b hb))
theorem fF.mut{b:Nat}{T:TypeId}{cs:List Value}(h:fF w b T cs)(e:jG l w w')(hd:∀k,JK l k→b≠k):fF w' b T cs:=
 e.carry (F:=fun w=>fF w b T cs) h (fun _ _ h e=>fF.ex h e) (fun _ _ k h e hk=>fF.only h e (hd k hk))
theorem IC.mut{S:Nat→Prop}(hg:Gd R)(h:IC w S R sz A n c xs)(e:jG l w w')(hd:∀k,JK l k→¬S k):IC w' S R sz A n c xs:=
 e.carry (F:=fun w=>IC w S R sz A n c xs) h (fun _ _ h e=>IC.ex hg h e) (fun _ _ k h e hk=>IC.only hg h e (hd k hk))
theorem lB.mut{lo hi E:Nat}(hg:Gd R)(h:lB w lo hi E sz R A n c xs)(e:jG l w w')(hd:∀k,JK l k→k<lo∨hi≤k):lB w' lo hi E sz R A n c xs:=
 e.carry (F:=fun w=>lB w lo hi E sz R A n c xs) h (fun _ _ h e=>lB.ex hg h e) (fun _ _ k h e hk=>lB.only hg h e (hd k hk))
end
end Go.X
