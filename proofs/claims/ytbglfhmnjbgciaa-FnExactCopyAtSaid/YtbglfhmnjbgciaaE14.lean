/- A region that draws its order and whose operations may write into blocks of the call's own. -/
import Derived.Test.YtbglfhmnjbgciaaE13
set_option linter.unusedVariables false
set_option linter.unusedSimpArgs false
namespace Go.X
open Go.RowKit
structure Chg (p : Nat → Prop) (w w' : World) : Prop where
  os : w'.os = w.os
  tape : w'.tape = w.tape
  output : w'.output = w.output
  size : w.heap.size ≤ w'.heap.size
  block : ∀ k, k < w.heap.size → ¬ p k → w'.heap[k]? = w.heap[k]?
section
variable {p q : Nat → Prop} {w w' w0 : World} {α : Type} {R : Rel α} {sz n c : Nat} {A : Option Addr} {xs : List α}
theorem Chg.refl (p : Nat → Prop) (w : World) : Chg p w w := ⟨rfl, rfl, rfl, Nat.le_refl _, fun _ _ _ => rfl⟩
theorem Chg.imp (h : Chg p w w') (hq : ∀ b, b < w.heap.size → p b → q b) : Chg q w w' := ⟨h.os, h.tape, h.output, h.size, fun k hk hn => h.block k hk (fun hp => hn (hq k hk hp))⟩
theorem Chg.trans (h : Chg p w0 w) (k : Chg p w w') : Chg p w0 w' :=
  ⟨k.os.trans h.os, k.tape.trans h.tape, k.output.trans h.output, Nat.le_trans h.size k.size, fun i hi hp => (k.block i (Nat.lt_of_lt_of_le hi h.size) hp).trans (h.block i hi hp)⟩
theorem Chg.ex (h : Chg p w w') (hp : ∀ b, p b → w.heap.size ≤ b) : Ex w w' := ⟨h.os, h.tape, h.output, h.size, fun k hk => h.block k hk (fun hh => absurd (hp k hh) (by omega))⟩
end
theorem OwnL.rdI {α : Type} {w : World} {lo hi E sz : Nat} {R : Rel α} {A : Option Addr} {n c : Nat} {xs : List α} (hg : Gd R) (h : OwnL w lo hi E sz R A n c xs) : RdS w (Iv lo hi) R sz A n c xs := by
  rcases h.2 with ⟨h0, hc⟩ | h2
  · have hx : xs = [] := List.eq_nil_of_length_eq_zero (by rw [← h.1, h0])
    subst hx; subst h0; subst hc
    exact RdS.nil _ _ _ _ _ _ (by decide)
  · obtain ⟨e2, S, cells, ho, he, h3, h4⟩ := h2
    obtain ⟨f1, f2, hf⟩ := ho.form
    refine ⟨h.1, f1, ⟨f2, ho.2⟩, cells, he.mono fun c x hx => hg.wide hx fun b hb _ => h4 b hb, ?_⟩
    rcases hf with ⟨hA, h0⟩ | ⟨g, hA, hlo, hlt⟩
    · exact .inl (List.eq_nil_of_length_eq_zero (by rw [← h.1, h0]))
    · right
      subst hA
      exact ⟨g, 0, rfl, e2 g rfl, hlt, ho.cells⟩
structure Gh where
  fl : Nat → Nat
  fh : Nat → Nat
  dn : Nat → Bool
def Gh.upd (G : Gh) (i lo hi : Nat) : Gh := ⟨fun j => if j = i then lo else G.fl j, fun j => if j = i then hi else G.fh j, fun j => Nat.beq j i || G.dn j⟩
section
variable {G : Gh} {i k lo hi : Nat}
end
structure StG (ops : List Oper) (w0 : World) (p0 : Gh → Nat → Prop) (G : Gh) (w : World) : Prop where
  ex : Chg (fun b => p0 G b ∨ w0.heap.size ≤ b) w0 w
  rng : ∀ j, G.dn j = true → w0.heap.size ≤ G.fl j ∧ G.fl j ≤ G.fh j ∧ G.fh j ≤ w.heap.size
  sep : ∀ i j, G.dn i = true → G.dn j = true → Nat.beq i j = false → G.fh i ≤ G.fl j ∨ G.fh j ≤ G.fl i
  cl : ∀ j k, G.dn j = true → behind ops 24 j k = true → G.dn k = true
  ord : ∀ j k, G.dn j = true → behind ops 24 j k = true → G.fh k ≤ G.fl j
structure KnownG (ops : List Oper) (L0 : List (Nat × Value)) (w0 : World) (p0 : Gh → Nat → Prop) (V : Nat → Gh → Value → World → Prop) (i : Nat) (L : List (Nat × Value)) (w : World) (G : Gh) : Prop where
  st : StG ops w0 p0 G w
  old : ∀ t v, lkp L0 t = some v → freeB i t ops = true → lkp L t = some v
  val : ∀ j d, behind ops 24 i j = true → (ops[j]?).bind (·.dst) = some d → ∃ v, lkp L d = some v ∧ V j G v w
  fact : ∀ j, behind ops 24 i j = true → ∃ v, V j G v w
  has : ∀ j, behind ops 24 i j = true → G.dn j = true
  new : G.dn i = false
def HopsG (P : Program) (ops : List Oper) (L0 : List (Nat × Value)) (w0 : World) (p0 : Gh → Nat → Prop) (Stp : Nat → Gh → Nat → Prop) (V : Nat → Gh → Value → World → Prop) : Nat → List Oper → Prop
  | _, [] => True
  | i, o :: l => (∀ L w G, KnownG ops L0 w0 p0 V i L w G → OpR P ops.toArray o L w fun v w' => Chg (Stp i G) w w' ∧ V i (G.upd i w.heap.size w'.heap.size) v w') ∧ HopsG P ops L0 w0 p0 Stp V (i + 1) l
theorem HopsG.spec {P : Program} {ops : List Oper} {L0 : List (Nat × Value)} {w0 : World} {p0 : Gh → Nat → Prop} {Stp : Nat → Gh → Nat → Prop} {V : Nat → Gh → Value → World → Prop} : ∀ {l : List Oper} {k : Nat}, HopsG P ops L0 w0 p0 Stp V k l → ∀ i o, l[i]? = some o → ∀ L w G, KnownG ops L0 w0 p0 V (k + i) L w G → OpR P ops.toArray o L w fun v w' => Chg (Stp (k + i) G) w w' ∧ V (k + i) (G.upd (k + i) w.heap.size w'.heap.size) v w'
  | [], _, _, i, o, hi => by simp at hi
  | p :: l, k, h, i, o, hi => by
    cases i with
    | zero => simp at hi; subst hi; exact h.1
    | succ i =>
      have := HopsG.spec h.2 i o (by simpa using hi)
      rwa [show k + 1 + i = k + (i + 1) by omega] at this
/-! ### What an operation yields, told to the printed proofs -/
def DetG (c : Value) : Gh → Value → World → Prop := fun _ v _ => v = c
def KeptG (ops : List Oper) (w0 : World) (p0 : Gh → Nat → Prop) (Stp : Nat → Gh → Nat → Prop) (j : Nat) (V : Gh → Value → World → Prop) : Prop :=
  ∀ i G v w w', StG ops w0 p0 G w → G.dn i = false → (∀ k, behind ops 24 i k = true → G.dn k = true) → G.dn j = true → V G v w → Chg (Stp i G) w w' → V (G.upd i w.heap.size w'.heap.size) v w'
theorem KeptG.det {ops : List Oper} {w0 : World} {p0 : Gh → Nat → Prop} {Stp : Nat → Gh → Nat → Prop} {j : Nat} (c : Value) : KeptG ops w0 p0 Stp j (DetG c) := fun _ _ _ _ _ _ _ _ _ h _ => h
end Go.X
