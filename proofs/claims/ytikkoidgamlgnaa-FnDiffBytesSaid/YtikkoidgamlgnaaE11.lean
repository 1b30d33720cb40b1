/- Comparing slices with nil, comparing structs; functions that write into what they are handed. -/
import Derived.Test.YtikkoidgamlgnaaE10
import Derived.Laws.StructEq
import Derived.Laws.Cover3
set_option linter.unusedVariables false
set_option linter.unusedSimpArgs false
namespace Go.X
open Go.RowKit
section
variable {P:Program}{o:Oper}{L:List (Nat×Value)}{w:World}{R:Value→World→Prop}
def FN(P:Program)(t:TypeId)(xs ys:List Value)(b:Bool):Prop:=P.eqGuardType P.depth t=false∧∀w:World,(Op.equalIn (9999+1) t (.agg xs.toArray) (.agg ys.toArray)).run P w=.ok b w
theorem hP{x y:Operand}{t t':TypeId}{xs ys:List Value}{b:Bool}(he:FN P t xs ys b)(ho:o.op=.binOp .eql t x y t')(hx:aE L x=some (.agg xs.toArray))(hy:aE L y=some (.agg ys.toArray))(hR:R (.bool b) w):Yl P o L w R:=
 .val (fun ρ hρ=>by
  have e:binOp .eql t (.agg xs.toArray) (.agg ys.toArray)=(do pure (.bool (←Op.equalIn (9999+1) t (.agg xs.toArray) (.agg ys.toArray)))):=rfl
  simp only[execOp,ho,hρ x _ hx,hρ y _ hy,Sem.run_bind,run_eqGuard_agg w .eql t x y xs.toArray ys.toArray he.1,Result.andThen_ok,e,he.2 w,Sem.run_pure]) hR
theorem iP{x y:Operand}{t t':TypeId}{xs ys:List Value}{b:Bool}(he:FN P t xs ys b)(ho:o.op=.binOp .neq t x y t')(hx:aE L x=some (.agg xs.toArray))(hy:aE L y=some (.agg ys.toArray))(hR:R (.bool !b) w):Yl P o L w R:=
 .val (fun ρ hρ=>by
  have e:binOp .neq t (.agg xs.toArray) (.agg ys.toArray)=(do pure (.bool !(←Op.equalIn (9999+1) t (.agg xs.toArray) (.agg ys.toArray)))):=rfl
  simp only[execOp,ho,hρ x _ hx,hρ y _ hy,Sem.run_bind,run_eqGuard_agg w .neq t x y xs.toArray ys.toArray he.1,Result.andThen_ok,e,he.2 w,Sem.run_pure]) hR
end
/-! ### Calls that write into what they are handed -/
def jD:List (Nat×Nat)→Nat→Prop
 | [],_=>False
 | p::l,b=>(p.1≤b∧b<p.2)∨jD l b
inductive AL (l:List (Nat×Nat)):World→World→Prop
 | refl (w:World):AL l w w
 | ex {w w1 w2:World}:AL l w w1→Ex w1 w2→AL l w w2
 | only{w w1 w2:World}{b:Nat}:AL l w w1→HH b w1 w2→jD l b→AL l w w2
section
variable {l l':List (Nat×Nat)}{w w' w0:World}{α:Type}{R:xH α}{sz n c:Nat}{A:Option Addr}{xs:List α}
theorem AL.size(h:AL l w w'):w.heap.size≤w'.heap.size:=by
 induction h with
 | refl=>exact Nat.le_refl _
 | ex _ e ih=>exact Nat.le_trans ih (Ex.size e)
 | only _ e _ ih=>rw[e.size];exact ih
end
end Go.X
