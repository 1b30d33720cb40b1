/- slices.Grow at nil: what it returns. -/
import Derived.Shelf.Spec.SlicesGrow
import Derived.Test.YtdbobbmagmcpnaaE17
set_option linter.unusedVariables false
set_option linter.unusedSimpArgs false
namespace Go.X
open Go.RowKit
section
open Go.Proofs Go.Shelf
variable {P : Program} {ρ : Ren}
theorem grow_cal {α : Type} {R : Rel α} (L : Lays8.n4 P ρ) {sz by_ : Nat} {z : Value} {ag : Bool} (hE : tyB P (ρ.t 25) = some (sz, by_, some z, ag)) (hzs : z.cells.size = sz) (hsz : 0 < sz) (hby : by_ ≤ 256) (n : Int) (h : 0 ≤ n ∧ n ≤ 274877906944) (w : World) :
    Cal P (ρ.f 4) #[.slice none 0 0, .int .i64 n] w fun v w' => ∃ A k lo hi, v = .slice A 0 k ∧ OwnL w' lo hi (ρ.t 25) sz R A 0 k [] ∧ (w.heap.size ≤ lo ∧ lo ≤ hi ∧ hi ≤ w'.heap.size) ∧ Ex w w' := by
  obtain ⟨m, rfl⟩ : ∃ m : Nat, n = (m : Int) := ⟨n.toNat, by omega⟩
  obtain ⟨i, d, hi, _, hs, hb, hz, _⟩ := tyB.spec hE
  rcases Nat.eq_zero_or_pos m with h0 | h0
  · subst h0
    refine Calls.mono (Any8.slices_Grow_room L none 0 0 0 w (Nat.le_refl _) (by omega) (by omega) (Nat.le_refl _)) ?_
    rintro e w' ⟨he, rfl⟩
    exact ⟨_, he, none, 0, w'.heap.size, w'.heap.size, rfl, OwnL.nil _ _ _ _ _ _, ⟨Nat.le_refl _, Nat.le_refl _, Nat.le_refl _⟩, Ex.refl _⟩
  · have hmb : m * i.bytes ≤ 140737488355328 := by
      have := Nat.mul_le_mul_left m (show i.bytes ≤ 256 by rw [hb]; exact hby)
      omega
    refine Calls.mono (Any8.slices_Grow_grow L i z hi hz (by rw [hs]; exact hsz) none 0 0 m [] w (Nat.le_refl _) (by omega) (by rw [Nat.zero_add]; exact hmb) (by omega) (by simp) (fun _ => rfl) (fun a h => by cases h)) ?_
    rintro e w' ⟨he, hw⟩
    have hge := grownCap_ge w (0 + m) 0 (ρ.t 25)
    have hcm : grownCap w (0 + m) 0 (ρ.t 25) ≤ maxLen := grownCap_le_maxLen w (0 + m) 0 (ρ.t 25) (by simp only [maxLen]; omega)
    generalize hK : grownCap w (0 + m) 0 (ρ.t 25) = K at he hw hge hcm
    have hsz' : w'.heap.size = w.heap.size + 1 := by rw [hw]; exact Array.size_push ..
    have hex : Ex w w' := by
      subst hw
      exact ⟨rfl, rfl, rfl, by show _ ≤ (w.drew.heap.push _).size; rw [Array.size_push]; exact Nat.le_succ _, fun k hk => heap_alloc_old w.drew _ hk⟩
    refine ⟨_, he, _, _, w.heap.size, w'.heap.size, rfl, ⟨rfl, .inr ⟨fun k hk => ?_, fun _ => False, [], ⟨⟨by simp, .inr ⟨w.heap.size, K, _, rfl, Nat.le_refl _, by rw [hw]; exact heap_alloc_new w.drew _, Nat.zero_le _, hcm, ?_, by simp⟩⟩, by omega⟩, .nil, fun _ _ h => h, fun _ h => h.elim⟩⟩, ⟨Nat.le_refl _, by omega, Nat.le_refl _⟩, hex⟩
    · simp only [blk, Option.some.injEq] at hk; omega
    · simp only [Array.size_append, List.size_toArray, size_zeroCells, hzs, List.length_nil, Nat.zero_add, Nat.sub_zero, ← Nat.add_mul]
      congr 1
      omega
end
end Go.X
