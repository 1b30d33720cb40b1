/- Comparing slices with nil, comparing structs; functions that write into what they are handed. -/
import Derived.Test.YtoimdjojffkefaaGreatDoorE10
import Derived.Laws.StructEq
import Derived.Laws.Cover3
set_option linter.unusedVariables false
set_option linter.unusedSimpArgs false
namespace Go.X
open Go.RowKit
section
variable {P:Program}{o:Oper}{L:List (Nat×Value)}{w:World}{R:Value→World→Prop}
theorem Ld{x y:Operand}{t t' e:TypeId}{A:Option Addr}{n c:Nat}(hu:P.underlying t=some (.slice e))(ho:o.op=.binOp .eql t x y t')(hx:rG L x=some (.slice A n c))(hy:rG L y=some (.slice none 0 0))(hR:R (.bool A.isNone) w):Yl P o L w R:=
 .val (fun ρ hρ=>by
  have e:binOp .eql t (.slice A n c) (.slice none 0 0)=(do pure (.bool (←Op.equal t (.slice A n c) (.slice none 0 0)))):=rfl
  simp only[execOp,ho,hρ x _ hx,hρ y _ hy,Sem.run_bind,VM .eql t x y (.slice A n c) (.slice none 0 0) rfl,Result.andThen_ok,e,run_equal_slice_nil w t _ A n c hu,Sem.run_pure]) hR
def JZ(P:Program)(t:TypeId)(xs ys:List Value)(b:Bool):Prop:=P.eqGuardType P.depth t=false∧∀w:World,(Op.equalIn (9999+1) t (.agg xs.toArray) (.agg ys.toArray)).run P w=.ok b w
theorem Hd{x y:Operand}{t t':TypeId}{xs ys:List Value}{b:Bool}(he:JZ P t xs ys b)(ho:o.op=.binOp .eql t x y t')(hx:rG L x=some (.agg xs.toArray))(hy:rG L y=some (.agg ys.toArray))(hR:R (.bool b) w):Yl P o L w R:=
 .val (fun ρ hρ=>by
  have e:binOp .eql t (.agg xs.toArray) (.agg ys.toArray)=(do pure (.bool (←Op.equalIn (9999+1) t (.agg xs.toArray) (.agg ys.toArray)))):=rfl
  simp only[execOp,ho,hρ x _ hx,hρ y _ hy,Sem.run_bind,run_eqGuard_agg w .eql t x y xs.toArray ys.toArray he.1,Result.andThen_ok,e,he.2 w,Sem.run_pure]) hR
theorem Jd{x y:Operand}{t t':TypeId}{xs ys:List Value}{b:Bool}(he:JZ P t xs ys b)(ho:o.op=.binOp .neq t x y t')(hx:rG L x=some (.agg xs.toArray))(hy:rG L y=some (.agg ys.toArray))(hR:R (.bool !b) w):Yl P o L w R:=
 .val (fun ρ hρ=>by
  have e:binOp .neq t (.agg xs.toArray) (.agg ys.toArray)=(do pure (.bool !(←Op.equalIn (9999+1) t (.agg xs.toArray) (.agg ys.toArray)))):=rfl
  simp only[execOp,ho,hρ x _ hx,hρ y _ hy,Sem.run_bind,run_eqGuard_agg w .neq t x y xs.toArray ys.toArray he.1,Result.andThen_ok,e,he.2 w,Sem.run_pure]) hR
end
theorem oD.nilA{α:Type}{w:World}{S:Nat→Prop}{R:JM α}{sz n c:Nat}{A:Option Addr}{xs:List α}(h:oD w S R sz A n c xs)(hA:A.isNone=true):xs=[]:=by
 obtain⟨_,_,_,cells,_,h | ⟨b,off,hb,_⟩⟩:=h
 ·exact h
 ·subst hb;cases hA
/-! ### Calls that write into what they are handed -/
def eL:List (Nat×Nat)→Nat→Prop
 | [],_=>False
 | p::l,b=>(p.1≤b∧b<p.2)∨eL l b
inductive HI (l:List (Nat×Nat)):World→World→Prop
 | refl (w:World):HI l w w
 | ex {w w1 w2:World}:HI l w w1→Ex w1 w2→HI l w w2
 | only{w w1 w2:World}{b:Nat}:HI l w w1→kN b w1 w2→eL l b→HI l w w2
section
variable {l l':List (Nat×Nat)}{w w' w0:World}{α:Type}{R:JM α}{sz n c:Nat}{A:Option Addr}{xs:List α}
theorem HI.size(h:HI l w w'):w.heap.size≤w'.heap.size:=by
 induction h with
 | refl=>exact Nat.le_refl _
 | ex _ e ih=>exact Nat.le_trans ih (Ex.size e)
 | only _ e _ ih=>rw[e.size];exact ih
theorem HI.carry{F:World→Prop}(h:HI l w w')(hf:F w)(h1:∀w1 w2,F w1→Ex w1 w2→F w2)(h2:∀w1 w2 b,F w1→kN b w1 w2→eL l b→F w2):F w':=by
 induction h with
 | refl=>exact hf
 | ex _ e ih=>exact h1 _ _ ih e
 | only _ e hb ih=>exact h2 _ _ _ ih e hb
theorem Ex.mut(h:Ex w0 w)(e:HI l w w')(hd:∀k,eL l k→w0.heap.size≤k):Ex w0 w':=
 e.carry (F:=fun w=>Ex w0 w) h (fun _ _ h e=>Ex.trans h e) (fun _ _ b h e hb=>Below.only h e (hd b hb))
theorem HI.mut(h:HI l w0 w)(e:HI l' w w')(hd:∀k,eL l' k→eL l k):HI l w0 w':=
 e.carry (F:=fun w=>HI l w0 w) h (fun _ _ h e=>.ex h e) (fun _ _ b h e hb=>.only h e (hd b hb))
theorem ZF.mut{b:Nat}{T:TypeId}{cs:List Value}(h:ZF w b T cs)(e:HI l w w')(hd:∀k,eL l k→b≠k):ZF w' b T cs:=
 e.carry (F:=fun w=>ZF w b T cs) h (fun _ _ h e=>ZF.ex h e) (fun _ _ k h e hk=>ZF.only h e (hd k hk))
theorem oD.mut{S:Nat→Prop}(hg:Gd R)(h:oD w S R sz A n c xs)(e:HI l w w')(hd:∀k,eL l k→¬S k):oD w' S R sz A n c xs:=
 e.carry (F:=fun w=>oD w S R sz A n c xs) h (fun _ _ h e=>oD.ex hg h e) (fun _ _ k h e hk=>oD.only hg h e (hd k hk))
theorem KB.mut{lo hi E:Nat}(hg:Gd R)(h:KB w lo hi E sz R A n c xs)(e:HI l w w')(hd:∀k,eL l k→k<lo∨hi≤k):KB w' lo hi E sz R A n c xs:=
 e.carry (F:=fun w=>KB w lo hi E sz R A n c xs) h (fun _ _ h e=>KB.ex hg h e) (fun _ _ k h e hk=>KB.only hg h e (hd k hk))
end
end Go.X
