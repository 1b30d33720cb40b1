/- Comparing slices with nil, comparing structs; functions that write into what they are handed. -/
import Derived.Test.YtikkoidgamlgnaaE10
import Derived.Laws.StructEq
import Derived.Laws.Cover3
set_option linter.unusedVariables false
set_option linter.unusedSimpArgs false
namespace Go.X
open Go.RowKit
section
variable {P:Program}{o:Oper}{L:List (Nat×Value)}{w:World}{R:Value→World→Prop}
def AM(P:Program)(t:TypeId)(xs ys:List Value)(b:Bool):Prop:=P.eqGuardType P.depth t=false∧∀w:World,(Op.equalIn (9999+1) t (.agg xs.toArray) (.agg ys.toArray)).run P w=.ok b w
theorem rM{x y:Operand}{t t':TypeId}{xs ys:List Value}{b:Bool}(he:AM P t xs ys b)(ho:o.op=.binOp .neq t x y t')(hx:tD L x=some (.agg xs.toArray))(hy:tD L y=some (.agg ys.toArray))(hR:R (.bool !b) w):Yl P o L w R:=
 .val (fun ρ hρ=>by
  have e:binOp .neq t (.agg xs.toArray) (.agg ys.toArray)=(do pure (.bool !(←Op.equalIn (9999+1) t (.agg xs.toArray) (.agg ys.toArray)))):=rfl
  simp only[execOp,ho,hρ x _ hx,hρ y _ hy,Sem.run_bind,run_eqGuard_agg w .neq t x y xs.toArray ys.toArray he.1,Result.andThen_ok,e,he.2 w,Sem.run_pure]) hR
end
/-! ### Calls that write into what they are handed -/
def oE:List (Nat×Nat)→Nat→Prop
 | [],_=>False
 | p::l,b=>(p.1≤b∧b<p.2)∨oE l b
inductive mJ (l:List (Nat×Nat)):World→World→Prop
 | refl (w:World):mJ l w w
 | ex {w w1 w2:World}:mJ l w w1→Ex w1 w2→mJ l w w2
 | only{w w1 w2:World}{b:Nat}:mJ l w w1→fG b w1 w2→oE l b→mJ l w w2
section
variable {l l':List (Nat×Nat)}{w w' w0:World}{α:Type}{R:KF α}{sz n c:Nat}{A:Option Addr}{xs:List α}
theorem mJ.size(h:mJ l w w'):w.heap.size≤w'.heap.size:=by
 induction h with
 | refl=>exact Nat.le_refl _
 | ex _ e ih=>exact Nat.le_trans ih (Ex.size e)
 | only _ e _ ih=>rw[e.size];exact ih
end
end Go.X
