/- Loops in plain terms; the words that the printed proofs use. -/
import Derived.Test.YtdhfokkkpcelpaaGreatDoorE5
set_option linter.unusedVariables false
set_option linter.unusedSimpArgs false
namespace Go.X
open Go.RowKit
inductive Out (ρ σ : Type) where
  | ret (r : ρ)
  | brk (s : σ)
  | cont (s : σ)
inductive End (ρ σ : Type) where
  | ret (r : ρ)
  | done (s : σ)
def loopM {ρ σ : Type} (body : Nat → σ → Out ρ σ) : Nat → Nat → σ → End ρ σ
  | 0, _, s => .done s
  | f + 1, k, s => match body k s with
    | .ret r => .ret r
    | .brk s => .done s
    | .cont s => loopM body f (k + 1) s
def loopE {ρ σ T : Type} (e : End ρ σ) (fr : ρ → T) (fd : σ → T) : T := match e with | .ret r => fr r | .done s => fd s
theorem loopE_done {ρ σ T : Type} (s : σ) (fr : ρ → T) (fd : σ → T) : loopE (.done s) fr fd = fd s := rfl
theorem loopE_ret {ρ σ T : Type} (r : ρ) (fr : ρ → T) (fd : σ → T) : loopE (.ret r) fr fd = fr r := rfl
section
variable {ρ σ : Type} {body : Nat → σ → Out ρ σ} {n k : Nat} {s s' : σ} {r : ρ}
theorem loopM.stop (h : n ≤ k) : loopM body (n - k) k s = .done s := by
  rw [Nat.sub_eq_zero_of_le h]; rfl
theorem loopM.cont (h : k < n) (hb : body k s = .cont s') : loopM body (n - k) k s = loopM body (n - (k + 1)) (k + 1) s' := by
  obtain ⟨f, hf⟩ : ∃ f, n - k = f + 1 := ⟨n - k - 1, by omega⟩
  have hf' : n - (k + 1) = f := by omega
  rw [hf, hf']
  simp only [loopM, hb]
theorem loopM.ret (h : k < n) (hb : body k s = .ret r) : loopM body (n - k) k s = .ret r := by
  obtain ⟨f, hf⟩ : ∃ f, n - k = f + 1 := ⟨n - k - 1, by omega⟩
  rw [hf]
  simp only [loopM, hb]
theorem loopM.brk (h : k < n) (hb : body k s = .brk s') : loopM body (n - k) k s = .done s' := by
  obtain ⟨f, hf⟩ : ∃ f, n - k = f + 1 := ⟨n - k - 1, by omega⟩
  rw [hf]
  simp only [loopM, hb]
end
theorem bcase {p : Prop} (b : Bool) (ht : b = true → p) (hf : b = false → p) : p := by
  cases b
  · exact hf rfl
  · exact ht rfl
theorem not_t {b : Bool} (h : b = true) : (!b) = false := by rw [h]; rfl
theorem not_f {b : Bool} (h : b = false) : (!b) = true := by rw [h]; rfl
theorem dec_t {p : Prop} [Decidable p] (h : decide p = true) : p := of_decide_eq_true h
theorem dec_f {p : Prop} [Decidable p] (h : decide p = false) : ¬ p := of_decide_eq_false h
section
variable {P : Program} {n : Nat} {ops : Array Oper} {K : List (Nat × Value) → World → Prop} {o : Oper} {l : List Oper} {L : List (Nat × Value)} {w : World} {Q : Exit → List (Nat × Value) → World → Prop} {nx : List (Nat × Value) → World → Prop}
theorem SeqR.done (h : K L w) : SeqR P n ops K [] L w := h
theorem SeqR.d1 {d : Nat} (hg : o.guard = none) (hd : o.dst = some d) (hn : Nat.blt d n = true) (h : Yl P o L w fun v w' => SeqR P n ops K l ((d, v) :: L) w') : SeqR P n ops K (o :: l) L w :=
  SeqR.op hg (by unfold dstOk; rw [hd]; exact hn) (by rw [hd]; exact h)
theorem SeqR.u (hg : o.guard = none) (hd : o.dst = none) (h : Yl P o L w fun _ w' => SeqR P n ops K l L w') : SeqR P n ops K (o :: l) L w :=
  SeqR.op hg (by unfold dstOk; rw [hd]) (by rw [hd]; exact h)
theorem SeqR.y {d j e : Nat} {b g : Bool} (hg : o.guard = some (j, b)) (hd : o.dst = some d) (hn : Nat.blt d n = true) (hj : (ops[j]?).bind (·.dst) = some e) (hv : lkp L e = some (.bool g)) (hb : g = b) (h : Yl P o L w fun v w' => SeqR P n ops K l ((d, v) :: L) w') : SeqR P n ops K (o :: l) L w :=
  SeqR.want hg (by unfold dstOk; rw [hd]; exact hn) hj hv hb (by rw [hd]; exact h)
theorem SeqR.z {d j e : Nat} {b g : Bool} (hg : o.guard = some (j, b)) (hd : o.dst = some d) (hn : Nat.blt d n = true) (hj : (ops[j]?).bind (·.dst) = some e) (hv : lkp L e = some (.bool g)) (hb : g = !b) (h : SeqR P n ops K l ((d, undef) :: L) w) : SeqR P n ops K (o :: l) L w :=
  SeqR.skip hg (by unfold dstOk; rw [hd]; exact hn) hj hv hb (by rw [hd]; exact h)
theorem SeqR.q {d j e : Nat} {b : Bool} (hg : o.guard = some (j, b)) (hd : o.dst = some d) (hn : Nat.blt d n = true) (hj : (ops[j]?).bind (·.dst) = some e) (hv : lkp L e = some undef) (h : SeqR P n ops K l ((d, undef) :: L) w) : SeqR P n ops K (o :: l) L w :=
  ⟨by unfold dstOk; rw [hd]; exact hn, .undef hg hj hv (by rw [hd]; exact h)⟩
theorem tn (h : nx L w) : thenQ nx Q .normal L w := h
theorem tx {i : Nat} (h : Q (.exit i) L w) : thenQ nx Q (.exit i) L w := h
theorem tr (h : Q .ret L w) : thenQ nx Q .ret L w := h
theorem bn {i : Nat} (h : Q .normal L w) : inBlockQ i Q .normal L w := h
theorem br {i : Nat} (h : Q .ret L w) : inBlockQ i Q .ret L w := h
theorem bx {i : Nat} (h : Q .normal L w) : inBlockQ i Q (.exit i) L w := by show (if i = i then _ else _); rw [if_pos rfl]; exact h
theorem rn {fn : Func} {R : Value → World → Prop} {rs : List ResultVar} {vs : List Value} (hr : fn.results = rs.toArray) (hv : ResRs P L w rs vs) (h : R (tup vs) w) : retQ P fn R .normal L w := retQ.of hr hv h
theorem rr {fn : Func} {R : Value → World → Prop} {rs : List ResultVar} {vs : List Value} (hr : fn.results = rs.toArray) (hv : ResRs P L w rs vs) (h : R (tup vs) w) : retQ P fn R .ret L w := retQ.of hr hv h
theorem OpR.op' (hg : o.guard = none) {R : Value → World → Prop} (h : Yl P o L w R) : OpR P ops o L w R := .op hg h
end
def Det (c : Value) : Value → World → Prop := fun v _ => v = c
def Stable (V : Value → World → Prop) : Prop := ∀ v w w', V v w → Ex w w' → V v w'
theorem Stable.det (c : Value) : Stable (Det c) := fun _ _ _ h _ => h
theorem Yl.same {P : Program} {o : Oper} {L : List (Nat × Value)} {w : World} {V : Value → World → Prop} (h : Yl P o L w fun v w' => V v w' ∧ w' = w) : Yl P o L w fun v w' => V v w' ∧ Ex w w' :=
  fun ρ hρ => (h ρ hρ).mono fun _ _ ⟨h1, h2⟩ => ⟨h1, h2 ▸ Ex.refl _⟩
theorem RdS.fix {α : Type} {w : World} {S : Nat → Prop} {R : Rel α} {sz : Nat} {A : Option Addr} {n c : Nat} {xs : List α} (h : RdS w S R sz A n c xs) : RdS w S R sz A xs.length c xs := by
  obtain rfl := h.1
  exact h
theorem RdS.up {α : Type} {w : World} {S : Nat → Prop} {R : Rel α} {sz : Nat} {A : Option Addr} {n c : Nat} {xs : List α} (h : RdS w S R sz A n c xs) (hg : Gd R) : RdS w (Iv 0 w.heap.size) R sz A n c xs := h.wide hg fun _ _ hb => ⟨Nat.zero_le _, hb⟩
end Go.X
