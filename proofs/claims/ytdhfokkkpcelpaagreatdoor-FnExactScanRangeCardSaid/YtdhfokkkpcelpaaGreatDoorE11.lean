/- Comparing slices with nil, comparing structs; functions that write into what they are handed. -/
import Derived.Test.YtdhfokkkpcelpaaGreatDoorE10
import Derived.Laws.StructEq
import Derived.Laws.Cover3
set_option linter.unusedVariables false
set_option linter.unusedSimpArgs false
namespace Go.X
open Go.RowKit
section
variable {P : Program} {o : Oper} {L : List (Nat × Value)} {w : World} {R : Value → World → Prop}
def AggEq (P : Program) (t : TypeId) (xs ys : List Value) (b : Bool) : Prop := P.eqGuardType P.depth t = false ∧ ∀ w : World, (Op.equalIn (9999 + 1) t (.agg xs.toArray) (.agg ys.toArray)).run P w = .ok b w
theorem yl_aeql {x y : Operand} {t t' : TypeId} {xs ys : List Value} {b : Bool} (he : AggEq P t xs ys b) (ho : o.op = .binOp .eql t x y t') (hx : opv L x = some (.agg xs.toArray)) (hy : opv L y = some (.agg ys.toArray)) (hR : R (.bool b) w) : Yl P o L w R :=
  .val (fun ρ hρ => by
    have e : binOp .eql t (.agg xs.toArray) (.agg ys.toArray) = (do pure (.bool (← Op.equalIn (9999 + 1) t (.agg xs.toArray) (.agg ys.toArray)))) := rfl
    simp only [execOp, ho, hρ x _ hx, hρ y _ hy, Sem.run_bind, run_eqGuard_agg w .eql t x y xs.toArray ys.toArray he.1, Result.andThen_ok, e, he.2 w, Sem.run_pure]) hR
theorem yl_aneq {x y : Operand} {t t' : TypeId} {xs ys : List Value} {b : Bool} (he : AggEq P t xs ys b) (ho : o.op = .binOp .neq t x y t') (hx : opv L x = some (.agg xs.toArray)) (hy : opv L y = some (.agg ys.toArray)) (hR : R (.bool !b) w) : Yl P o L w R :=
  .val (fun ρ hρ => by
    have e : binOp .neq t (.agg xs.toArray) (.agg ys.toArray) = (do pure (.bool !(← Op.equalIn (9999 + 1) t (.agg xs.toArray) (.agg ys.toArray)))) := rfl
    simp only [execOp, ho, hρ x _ hx, hρ y _ hy, Sem.run_bind, run_eqGuard_agg w .neq t x y xs.toArray ys.toArray he.1, Result.andThen_ok, e, he.2 w, Sem.run_pure]) hR
end
/-! ### Calls that write into what they are handed -/
def InR : List (Nat × Nat) → Nat → Prop
  | [], _ => False
  | p :: l, b => (p.1 ≤ b ∧ b < p.2) ∨ InR l b
inductive Mut (l : List (Nat × Nat)) : World → World → Prop
  | refl (w : World) : Mut l w w
  | ex {w w1 w2 : World} : Mut l w w1 → Ex w1 w2 → Mut l w w2
  | only {w w1 w2 : World} {b : Nat} : Mut l w w1 → Only b w1 w2 → InR l b → Mut l w w2
section
variable {l l' : List (Nat × Nat)} {w w' w0 : World} {α : Type} {R : Rel α} {sz n c : Nat} {A : Option Addr} {xs : List α}
theorem Mut.size (h : Mut l w w') : w.heap.size ≤ w'.heap.size := by
  induction h with
  | refl => exact Nat.le_refl _
  | ex _ e ih => exact Nat.le_trans ih (Ex.size e)
  | only _ e _ ih => rw [e.size]; exact ih
theorem Mut.carry {F : World → Prop} (h : Mut l w w') (hf : F w) (h1 : ∀ w1 w2, F w1 → Ex w1 w2 → F w2) (h2 : ∀ w1 w2 b, F w1 → Only b w1 w2 → InR l b → F w2) : F w' := by
  induction h with
  | refl => exact hf
  | ex _ e ih => exact h1 _ _ ih e
  | only _ e hb ih => exact h2 _ _ _ ih e hb
theorem Ex.mut (h : Ex w0 w) (e : Mut l w w') (hd : ∀ k, InR l k → w0.heap.size ≤ k) : Ex w0 w' :=
  e.carry (F := fun w => Ex w0 w) h (fun _ _ h e => Ex.trans h e) (fun _ _ b h e hb => Below.only h e (hd b hb))
theorem Mut.mut (h : Mut l w0 w) (e : Mut l' w w') (hd : ∀ k, InR l' k → InR l k) : Mut l w0 w' :=
  e.carry (F := fun w => Mut l w0 w) h (fun _ _ h e => .ex h e) (fun _ _ b h e hb => .only h e (hd b hb))
theorem Box.mut {b : Nat} {T : TypeId} {cs : List Value} (h : Box w b T cs) (e : Mut l w w') (hd : ∀ k, InR l k → b ≠ k) : Box w' b T cs :=
  e.carry (F := fun w => Box w b T cs) h (fun _ _ h e => Box.ex h e) (fun _ _ k h e hk => Box.only h e (hd k hk))
theorem RdS.mut {S : Nat → Prop} (hg : Gd R) (h : RdS w S R sz A n c xs) (e : Mut l w w') (hd : ∀ k, InR l k → ¬ S k) : RdS w' S R sz A n c xs :=
  e.carry (F := fun w => RdS w S R sz A n c xs) h (fun _ _ h e => RdS.ex hg h e) (fun _ _ k h e hk => RdS.only hg h e (hd k hk))
theorem OwnL.mut {lo hi E : Nat} (hg : Gd R) (h : OwnL w lo hi E sz R A n c xs) (e : Mut l w w') (hd : ∀ k, InR l k → k < lo ∨ hi ≤ k) : OwnL w' lo hi E sz R A n c xs :=
  e.carry (F := fun w => OwnL w lo hi E sz R A n c xs) h (fun _ _ h e => OwnL.ex hg h e) (fun _ _ k h e hk => OwnL.only hg h e (hd k hk))
end
end Go.X
