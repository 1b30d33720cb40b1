import Derived.Test.YtdhfokkkpcelpaaGreatDoorE17
/-! Shorter words for what the printed proofs say again and again. -/
set_option linter.unusedVariables false
set_option linter.unusedSimpArgs false
namespace Go.X
open Go.RowKit
theorem cL : (∀ (α : Type) (a b : α), cond true a b = a) ∧ (∀ (α : Type) (a b : α), cond false a b = b) ∧ (∀ (ρ σ T : Type) (s : σ) (fr : ρ → T) (fd : σ → T), loopE (.done s) fr fd = fd s) ∧ (∀ (ρ σ T : Type) (r : ρ) (fr : ρ → T) (fd : σ → T), loopE (.ret r) fr fd = fr r) :=
  ⟨fun _ _ _ => rfl, fun _ _ _ => rfl, fun _ _ _ _ _ _ => rfl, fun _ _ _ _ _ _ => rfl⟩
theorem wI (n : Int) : IntKind.wrap .i64 n = (n + 9223372036854775808) % 18446744073709551616 - 9223372036854775808 := IntKind.wrap_i64 n
abbrev oc := @opvs_cons
abbrev oz := @opvs_nil
theorem stD : ∀ vs : List Value, AllStableI (vs.map DetI)
  | [] => trivial
  | v :: vs => ⟨StableI.det v, stD vs⟩
section
variable {P : Program} {n : Nat} {ops : Array Oper} {nx : List (Nat × Value) → World → Prop} {Q : Exit → List (Nat × Value) → World → Prop} {L : List (Nat × Value)} {w : World}
theorem dn (h : nx L w) : SeqR P n ops (thenQ nx Q .normal) [] L w := h
end
section
variable {P : Program} {ops : List Oper} {opa : Array Oper} {L0 : List (Nat × Value)} {w0 : World} {o : Oper}
theorem oI {K : List (Nat × Value) → World → Prop} {R : Nat → Nat → Value → World → Prop} (hg : o.guard = none) (f : ∀ {L w}, K L w → Yl P o L w fun v w' => (∀ lo hi, R lo hi v w') ∧ w' = w) : ∀ L w, K L w → OpR P opa o L w fun v w' => R w.heap.size w'.heap.size v w' ∧ Ex w w' :=
  fun _ _ h => os hg (f h)
variable {Vs : List (Nat → Nat → Value → World → Prop)} {i j d : Nat} {b g : Bool}
theorem oW (hg : o.guard = some (j, b)) (h1 : (depsOf o).any (Nat.beq j) = true) (h2 : (ops[j]?).bind (·.dst) = some d) (h3 : Vs[j]? = some (DetI (.bool g))) (hb : g = b)
    (f : ∀ {L w}, KnownI ops L0 w0 (vgetI Vs) i o L w → Yl P o L w fun v w' => (∀ lo hi, vgetI Vs i lo hi v w') ∧ w' = w) : ∀ L w, KnownI ops L0 w0 (vgetI Vs) i o L w → OpR P ops.toArray o L w fun v w' => vgetI Vs i w.heap.size w'.heap.size v w' ∧ Ex w w' :=
  fun _ _ h => OpR.want hg (by simpa using h2) (h.dt j d h1 h2 h3) hb (Yl.sameI (f h))
theorem oS (hg : o.guard = some (j, b)) (h1 : (depsOf o).any (Nat.beq j) = true) (h2 : (ops[j]?).bind (·.dst) = some d) (h3 : Vs[j]? = some (DetI (.bool g))) (h4 : Vs[i]? = some (DetI undef)) (hb : g = !b) : ∀ L w, KnownI ops L0 w0 (vgetI Vs) i o L w → OpR P ops.toArray o L w fun v w' => vgetI Vs i w.heap.size w'.heap.size v w' ∧ Ex w w' :=
  fun _ _ h => OpR.skip hg (by simpa using h2) (h.dt j d h1 h2 h3) hb ⟨by unfold vgetI; rw [h4]; rfl, Ex.refl _⟩
theorem oU (hg : o.guard = some (j, b)) (h1 : (depsOf o).any (Nat.beq j) = true) (h2 : (ops[j]?).bind (·.dst) = some d) (h3 : Vs[j]? = some (DetI undef)) (h4 : Vs[i]? = some (DetI undef)) : ∀ L w, KnownI ops L0 w0 (vgetI Vs) i o L w → OpR P ops.toArray o L w fun v w' => vgetI Vs i w.heap.size w'.heap.size v w' ∧ Ex w w' :=
  fun _ _ h => OpR.undef hg (by simpa using h2) (h.dt j d h1 h2 h3) ⟨by unfold vgetI; rw [h4]; rfl, Ex.refl _⟩
end
theorem yl_ixN {P : Program} {o : Oper} {L : List (Nat × Value)} {w : World} {R : Value → World → Prop} {x y : Operand} {t e : TypeId} {A : Option Addr} {n c b off sz by_ : Nat} {z : Option Value} {ag : Bool} {i : Nat} {k : IntKind} (hu : P.underlying t = some (.slice e)) (he : tyB P e = some (sz, by_, z, ag))
    (ho : o.op = .indexAddr t x y) (hx : opv L x = some (.slice A n c)) (hy : opv L y = some (.int k (i : Int))) (hA : A = some ⟨b, off, none⟩) (hR : R (.pointer (some ⟨b, off + i * sz, none⟩)) w)
    (h1 : i < n := by first | omega | assumption | (simp only [IntKind.wrap_i64] at *; omega)) : Yl P o L w R := yl_indexAddrN hu he ho hx hy hA h1 hR
theorem RdS.aD {α : Type} {w : World} {S : Nat → Prop} {R : World → (Nat → Prop) → List Value → α → Prop} {sz n c : Nat} {A : Option Addr} {xs : List α} (h : RdS w S R sz A n c xs) (d : α) {i : Nat} (hi : i < n := by first | omega | assumption) : ∃ b off cs, A = some ⟨b, off, none⟩ ∧ S b ∧ b < w.heap.size ∧ cs.length = sz ∧ R w S cs (xs.getD i d) ∧ Cells w b (off + i * sz) cs := h.atD d hi
end Go.X
