/- Append where there is no room: the old cells are only read. -/
import Derived.Test.YtdhfokkkpcelpaaGreatDoorE16
set_option linter.unusedVariables false
set_option linter.unusedSimpArgs false
namespace Go.X
open Go.RowKit
section
variable {α : Type} {P : Program} {o : Oper} {L : List (Nat × Value)} {w : World} {Q : Value → World → Prop} {R : Rel α}
theorem yl_appendF {s x : Operand} {t E lo sz by_ : Nat} {z : Value} {ag : Bool} {A B : Option Addr} {n c m d : Nat} {xs ys : List α} {S1 S2 : Nat → Prop} (hg : Gd R) (ht : P.underlying t = some (.slice E)) (hE : tyB P E = some (sz, by_, some z, ag)) (hzs : z.cells.size = sz) (hsz : 0 < sz)
    (ho : o.op = .call { callee := .builtin .append, args := #[s, x], argTypes := #[t, t] }) (hs : opv L s = some (.slice A n c)) (hx : opv L x = some (.slice B m d)) (hn0 : 0 < n) (h1 : RdS w S1 R sz A n c xs) (h2 : RdS w S2 R sz B m d ys) (hfull : c < n + m)
    (h63 : n + m ≤ 281474976710656) (hb : (n + m) * by_ ≤ 140737488355328) (hlo : lo ≤ w.heap.size) (hS1 : ∀ c x, R w S1 c x → R w (fun b => lo ≤ b ∧ b < w.heap.size) c x) (hS2 : ∀ c x, R w S2 c x → R w (fun b => lo ≤ b ∧ b < w.heap.size) c x)
    (hR : ∀ A' c' w', OwnL w' lo w'.heap.size E sz R A' (xs ++ ys).length c' (xs ++ ys) → Ex w w' → (∀ k, blk A' = some k → w.heap.size ≤ k) → Q (.slice A' (xs ++ ys).length c') w') : Yl P o L w Q := fun ρ hρ => by
  obtain ⟨ie, de, hi, _, hs1, hb1, hz1, _⟩ := tyB.spec hE
  obtain ⟨news1, he1, hsr1⟩ := h1.src
  obtain ⟨news2, he2, hsr2⟩ := h2.src
  have hn := h1.len
  have hm := h2.len
  have hnc := h1.2.1
  have hl : n + m = (xs ++ ys).length := by rw [List.length_append, hn, hm]
  rcases hsr2 with ⟨hm0, _⟩ | ⟨b2, off2, hB, hl2, hc2⟩
  · omega
  subst hB
  have hl1 : news1.length = n * ie.size := by rw [he1.length, hs1, ← hn]
  have hl2' : news2.length = m * ie.size := by rw [hl2, hs1]
  have h48 : Builtin.nextslicecap (n + m) c * ie.bytes ≤ 281474976710656 := growslice_fits (by omega) (by rw [hb1]; exact hb)
  rcases hsr1 with ⟨h0, _⟩ | ⟨b1, off1, hA, _, hc1⟩
  · omega
  subst hA
  have holds : ∀ j v, news1[j]? = some v → w.cell? ((⟨b1, off1, none⟩ : Addr).add j) = some v := fun j v hv => by rw [add_none]; exact hc1 j v hv
  have hrun := run_append_grow (P := P) w t o.type E ie z ht hi hz1 ⟨b1, off1, none⟩ n c news1 hl1 holds ⟨b2, off2, none⟩ m d news2 hl2' (fun j v hv => by rw [add_none]; exact hc2 j v hv) hfull (by omega) h48
  have hge := grownCap_ge w (n + m) c E
  have hcm : grownCap w (n + m) c E ≤ maxLen := grownCap_le_maxLen w (n + m) c E (by simp only [maxLen]; omega)
  generalize hK : grownCap w (n + m) c E = K at hrun hge hcm
  have hlen : (news1 ++ news2).length = (n + m) * sz := by rw [List.length_append, hl1, hl2', hs1, Nat.add_mul]
  let w' := w.drew.alloc (.cells (news1.toArray ++ news2.toArray ++ Builtin.zeroCells z.cells (K - (n + m))) E)
  have hsz' : w'.heap.size = w.heap.size + 1 := Array.size_push ..
  have hex : Ex w w' := ⟨rfl, rfl, rfl, by rw [hsz']; omega, fun k hk => heap_alloc_old w.drew _ k hk⟩
  have hown : Own w' lo E sz (some ⟨w.heap.size, 0, none⟩) (n + m) K (news1 ++ news2) := by
    refine ⟨⟨hlen, .inr ⟨w.heap.size, K, _, rfl, hlo, heap_alloc_new w.drew _, hge, hcm, ?_, ?_⟩⟩, h63⟩
    · simp only [Array.size_append, List.size_toArray, size_zeroCells, hzs, hl1, hl2', hs1, ← Nat.add_mul]
      congr 1
      omega
    · simp only [Array.toList_append, List.append_assoc]
      rw [← List.append_assoc, ← hlen]
      exact List.take_left
  have e : (execOp ρ o).run P w = .ok (.value (.slice (some ⟨w.heap.size, 0, none⟩) (n + m) K)) w' := by
    simp [execOp, ho, resolve, hρ s _ hs, hρ x _ hx, invoke, builtin, hrun, w']
  unfold YlR
  rw [e, hl]
  rw [hl] at hown
  refine hR _ _ _ ⟨rfl, .inr ⟨fun k hk => ?_, fun b => lo ≤ b ∧ b < w.heap.size, _, hown, ?_, fun k hk hh => ?_, fun b hh => ⟨hh.1, by have := hh.2; omega⟩⟩⟩ hex (fun k hk => ?_)
  · simp only [blk, Option.some.injEq] at hk; subst hk; exact ⟨hlo, by omega⟩
  · refine EncL.append (he1.mono fun c x hx => ?_) (he2.mono fun c x hx => ?_)
    · exact hg.keep (hS1 _ _ hx) (fun b hb hl => Below.block hex b hl)
    · exact hg.keep (hS2 _ _ hx) (fun b hb hl => Below.block hex b hl)
  · simp only [blk, Option.some.injEq] at hk; have := hh.2; omega
  · simp only [blk, Option.some.injEq] at hk; omega
end
end Go.X
