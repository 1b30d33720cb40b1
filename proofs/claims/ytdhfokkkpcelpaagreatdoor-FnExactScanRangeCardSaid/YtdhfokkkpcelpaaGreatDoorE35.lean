/- Lists whose elements own memory, told as lists of numbers, and back: when only whole elements are moved. -/
import Derived.Test.YtdhfokkkpcelpaaGreatDoorE34
set_option linter.unusedVariables false
set_option linter.unusedSimpArgs false
namespace Go.X
open Go.RowKit
def ElI {α : Type} (RO : RelO α) (w : World) (lo hi l2 h2 n : Nat) (vs : Nat → Nat × Nat) (cl : Nat → Value) (xf : Nat → α) : Prop :=
  ∀ i, i < n → (lo ≤ (vs i).1 ∧ (vs i).1 ≤ (vs i).2 ∧ (vs i).2 ≤ hi) ∧ ((vs i).2 ≤ l2 ∨ h2 ≤ (vs i).1) ∧ RO w (vs i).1 (vs i).2 [cl i] (xf i) ∧ ∀ j, j < n → i ≠ j → Apt (vs i) (vs j)
section
variable {α : Type} {RO : RelO α} {R : Rel α} {w w' : World} {lo hi l2 h2 E sz n m c : Nat} {g : Option Nat} {A : Option Addr} {xs : List α} {vs : List (Nat × Nat)} {cs : List (List Value)} {vf : Nat → Nat × Nat} {cl : Nat → Value} {xf : Nat → α} {idx : List Nat}
theorem ElI.keep (hG : GdO RO R) (h : ElI RO w lo hi l2 h2 n vf cl xf) (hk : ∀ b, b < l2 ∨ h2 ≤ b → b < w.heap.size → w'.heap[b]? = w.heap[b]?) : ElI RO w' lo hi l2 h2 n vf cl xf := fun i hi' => by
  obtain ⟨h1, h2', h3, h4⟩ := h i hi'
  exact ⟨h1, h2', hG.keep h3 fun b b1 b2 b3 => hk b (by omega) b3, h4⟩
theorem ElI.mut (hG : GdO RO R) (h : ElI RO w lo hi l2 h2 n vf cl xf) (e : Mut [(l2, h2)] w w') : ElI RO w' lo hi l2 h2 n vf cl xf :=
  e.carry (F := fun w => ElI RO w lo hi l2 h2 n vf cl xf) h (fun _ _ h e => h.keep hG fun b _ hl => Below.block e b hl) (fun _ _ k h e hk => h.keep hG fun b hb _ => e.block b (by simp only [InR, or_false] at hk; omega))
theorem ChI.nthE (d : α) (k : ChI RO w sz g lo hi vs cs xs) : ∀ i, i < xs.length → (lo ≤ (vs.getD i (0, 0)).1 ∧ (vs.getD i (0, 0)).1 ≤ (vs.getD i (0, 0)).2 ∧ (vs.getD i (0, 0)).2 ≤ hi) ∧ (cs.getD i []).length = sz ∧ (∀ k, g = some k → k < (vs.getD i (0, 0)).1 ∨ (vs.getD i (0, 0)).2 ≤ k) ∧
    RO w (vs.getD i (0, 0)).1 (vs.getD i (0, 0)).2 (cs.getD i []) (xs.getD i d) ∧ ∀ j, j < xs.length → i ≠ j → Apt (vs.getD i (0, 0)) (vs.getD j (0, 0)) := by
  induction k with
  | nil => intro i hi; simp at hi
  | @cons v c x vs cs xs h0 hl hg hr hd hs ih =>
    have hln := hs.len
    have hmem : ∀ j, j < xs.length → vs.getD j (0, 0) ∈ vs := fun j hj => by
      have hj' : j < vs.length := by omega
      rw [List.getD_eq_getElem?_getD, List.getElem?_eq_getElem hj']; exact List.getElem_mem hj'
    intro i hi
    cases i with
    | zero =>
      refine ⟨h0, hl, hg, hr, fun j hj hne => ?_⟩
      cases j with
      | zero => exact absurd rfl hne
      | succ j => exact hd _ (hmem j (by simpa using hj))
    | succ i =>
      obtain ⟨a1, a2, a3, a4, a5⟩ := ih i (by simpa using hi)
      refine ⟨a1, a2, a3, a4, fun j hj hne => ?_⟩
      cases j with
      | zero => exact (hd _ (hmem i (by simpa using hi))).symm
      | succ j => exact a5 j (by simpa using hj) (fun e => hne (by rw [e]))
theorem encOpq (w : World) (S : Nat → Prop) (cl : Nat → Value) : ∀ idx : List Nat, EncL ((RF (e_Opq cl)) w S) 1 (idx.map fun i => [cl i]).flatten idx
  | [] => .nil
  | i :: idx => by
    rw [List.map_cons, List.flatten_cons]
    exact .cons rfl rfl (encOpq w S cl idx)
theorem unOpq {S : Nat → Prop} : ∀ {cells : List Value} {idx : List Nat}, EncL ((RF (e_Opq cl)) w S) 1 cells idx → cells = (idx.map fun i => [cl i]).flatten := by
  intro cells idx h
  induction h with
  | nil => rfl
  | @cons c x cs xs hl h hs ih =>
    have e : c = [cl x] := h
    rw [List.map_cons, List.flatten_cons, ← ih, e]
theorem OwnU.toN (d : α) (hG : GdO RO R) (hlh : lo ≤ hi) (h : OwnU w lo hi E 1 RO A n c xs) : ∃ cl l2 h2 vf, (∀ i : Nat, (cl i).oneCell' = true) ∧ (∀ i, cl i = cl (min i (n - 1))) ∧ OwnL w l2 h2 E 1 (RF (e_Opq cl)) A n c (List.range n) ∧ (lo ≤ l2 ∧ l2 ≤ h2 ∧ h2 ≤ hi) ∧ ElI RO w lo hi l2 h2 n vf cl (fun i => xs.getD i d) := by
  obtain ⟨h0, h1⟩ := h
  rcases Nat.eq_zero_or_pos n with hn | hn
  · refine ⟨fun _ => .bool false, lo, hi, fun _ => (0, 0), fun _ => rfl, fun _ => rfl, ?_, ⟨Nat.le_refl _, hlh, Nat.le_refl _⟩, fun i hi => by omega⟩
    subst hn
    refine ⟨rfl, h1.imp id ?_⟩
    rintro ⟨cells, vs, ho, hb, hc⟩
    obtain rfl : xs = [] := List.eq_nil_of_length_eq_zero h0.symm
    cases hc
    exact ⟨hb, fun _ => False, _, ho, EncL.nil, fun _ _ hh => hh, fun _ hh => hh.elim⟩
  · rcases h1 with ⟨h1, _⟩ | ⟨cells, vs, ho, hb, hc⟩
    · omega
    obtain ⟨_, _, hf⟩ := ho.form
    rcases hf with ⟨hA, h3⟩ | ⟨gg, hA, _, hlt⟩
    · omega
    subst hA
    have hgb := hb gg rfl
    have hln := hc.len
    have hN := hc.nthE d
    have hcl : ∀ i, i < n → cells.getD i [] = [((cells.getD i []).getD 0 (.bool false))] := fun i hi' => by
      have := (hN i (by omega)).2.1
      generalize cells.getD i [] = q at this ⊢
      match q, this with
      | [x], _ => rfl
    have hone : ∀ u ∈ cells.flatten, u.oneCell' = true := hc.ones hG
    have hmn : ∀ i, i < n → min i (n - 1) = i := fun i hi' => by omega
    refine ⟨fun i => (cells.getD (min i (n - 1)) []).getD 0 (.bool false), gg, gg + 1, fun i => vs.getD i (0, 0), fun i => ?_, fun i => ?_, ?_, ⟨hgb.1, by omega, by omega⟩, fun i hi' => ?_⟩
    · have hi' : min i (n - 1) < n := by omega
      refine hone _ (List.mem_flatten.2 ⟨cells.getD (min i (n - 1)) [], ?_, ?_⟩)
      · rw [List.getD_eq_getElem?_getD, List.getElem?_eq_getElem (by omega)]; exact List.getElem_mem _
      · rw [hcl _ hi']; exact List.mem_singleton.2 rfl
    · show _ = (cells.getD (min (min i (n - 1)) (n - 1)) []).getD 0 (.bool false)
      rw [show min (min i (n - 1)) (n - 1) = min i (n - 1) by omega]
    · refine ⟨by rw [List.length_range], .inr ⟨fun k hk => by simp only [blk, Option.some.injEq] at hk; omega, fun _ => False, _, ho.relo (fun k hk => by simp only [blk, Option.some.injEq] at hk; omega), ?_, fun _ _ hh => hh, fun _ hh => hh.elim⟩⟩
      have e : cells = (List.range n).map fun i => [((cells.getD (min i (n - 1)) []).getD 0 (.bool false))] := by
        refine List.ext_getElem (by rw [List.length_map, List.length_range]; omega) fun i h1 h2 => ?_
        rw [List.getElem_map, List.getElem_range, hmn i (by omega), ← hcl i (by omega), List.getD_eq_getElem?_getD, List.getElem?_eq_getElem h1]; rfl
      have := encOpq w (fun _ => False) (fun i => (cells.getD (min i (n - 1)) []).getD 0 (.bool false)) (List.range n)
      rw [← e] at this
      exact this
    · obtain ⟨a1, a2, a3, a4, a5⟩ := hN i (by omega)
      have a3 := a3 gg rfl
      rw [hcl i hi'] at a4
      refine ⟨a1, by dsimp only; omega, ?_, fun j hj => a5 j (by omega)⟩
      dsimp only
      rw [hmn i hi']
      exact a4
theorem ElI.chain (h : ElI RO w lo hi l2 h2 m vf cl xf) (hg : ∀ k, g = some k → l2 ≤ k ∧ k < h2) : ∀ {idx : List Nat}, idx.Nodup → (∀ i ∈ idx, i < m) → ChI RO w 1 g lo hi (idx.map vf) (idx.map fun i => [cl i]) (idx.map xf)
  | [], _, _ => .nil
  | i :: idx, hnd, hlt => by
    obtain ⟨a1, a2, a3, a4⟩ := h i (hlt i (List.mem_cons_self ..))
    obtain ⟨n1, n2⟩ := List.nodup_cons.1 hnd
    refine .cons a1 rfl (fun k hk => by have := hg k hk; omega) a3 (fun u hu => ?_) (h.chain hg n2 fun j hj => hlt j (List.mem_cons_of_mem _ hj))
    obtain ⟨j, hj, rfl⟩ := List.mem_map.1 hu
    exact a4 j (hlt j (List.mem_cons_of_mem _ hj)) fun e => n1 (e ▸ hj)
theorem OwnU.ofN (hG : GdO RO R) (hE : ElI RO w lo hi l2 h2 m vf cl xf) (hO : OwnL w' l2 h2 E 1 (RF (e_Opq cl)) A n c idx) (hM : Mut [(l2, h2)] w w') (hr : lo ≤ l2 ∧ l2 ≤ h2 ∧ h2 ≤ hi) (hnd : idx.Nodup) (hlt : ∀ i ∈ idx, i < m) : OwnU w' lo hi E 1 RO A n c (idx.map xf) := by
  have hE := hE.mut hG hM
  obtain ⟨h0, h1⟩ := hO
  refine ⟨by rw [List.length_map]; exact h0, h1.imp id ?_⟩
  rintro ⟨hb, S, cells, ho, hc, _, _⟩
  refine ⟨idx.map fun i => [cl i], idx.map vf, ?_, fun k hk => by have := hb k hk; omega, hE.chain hb hnd hlt⟩
  rw [← unOpq hc]
  exact ho.relo fun k hk => by have := hb k hk; omega
theorem OwnV.mut (hG : GdO RO R) {r : List (Nat × Nat)} {i : Nat} {v : Nat × Nat} {e : List Value} (h : OwnV w lo hi E sz RO A n c xs i v e) (x : Mut r w w') (hd : ∀ k, InR r k → k < lo ∨ hi ≤ k ∨ (v.1 ≤ k ∧ k < v.2)) : OwnV w' lo hi E sz RO A n c xs i v e :=
  x.carry (F := fun w => OwnV w lo hi E sz RO A n c xs i v e) h (fun _ _ h e => h.ex hG e) (fun _ _ k h e hk => h.only hG e (hd k hk))
end
section
variable {α : Type} {P : Program} {o : Oper} {L : List (Nat × Value)} {w : World} {Q : Value → World → Prop} {R : Rel α}
theorem yl_appendMB {s x : Operand} {t E lo hi sz by_ : Nat} {z : Value} {ag : Bool} {A B : Option Addr} {n c m d : Nat} {xs ys : List α} {M : Nat} {S : Nat → Prop} {news : List Value} (hg : Gd R) (ht : P.underlying t = some (.slice E)) (hE : tyB P E = some (sz, by_, some z, ag)) (hzs : z.cells.size = sz) (hsz : 0 < sz)
    (ho : o.op = .call { callee := .builtin .append, args := #[s, x], argTypes := #[t, t] }) (hs : opv L s = some (.slice A n c)) (hx : opv L x = some (.slice B m d)) (hown : OwnL w lo hi E sz R A n c xs) (henc : EncL (R w S) sz news ys) (hsrc : Src w sz B m news) (hm : m = ys.length)
    (h63 : n + m ≤ 281474976710656) (hb : (n + m) * by_ ≤ 140737488355328) (hlo : lo ≤ w.heap.size) (hhi : hi ≤ w.heap.size) (hS : ∀ k, S k → k < w.heap.size → lo ≤ k ∧ (hi ≤ k ∨ k < M)) (hbk : ∀ k, blk A = some k → M ≤ k) (hM : M ≤ w.heap.size) (hlh : lo ≤ hi) (hmp0 : 0 < m)
    (hR : ∀ A' c' w' row, OwnL w' lo w'.heap.size E sz R A' (xs ++ ys).length c' (xs ++ ys) → w.grownBy w' row → (∀ k, row = some k → (lo ≤ k ∧ M ≤ k) ∧ k < hi) → (∀ k, blk A' = some k → M ≤ k ∧ ((lo ≤ k ∧ k < hi) ∨ w.heap.size ≤ k)) → Q (.slice A' (xs ++ ys).length c') w') : Yl P o L w Q := by
  obtain ⟨h1, h2⟩ := hown
  have hl : n + m = (xs ++ ys).length := by rw [List.length_append, h1, hm]
  have hblk : ∀ {A' c' w' cells}, Own w' lo E sz A' (xs ++ ys).length c' cells → ∀ k, blk A' = some k → lo ≤ k ∧ k < w'.heap.size := fun hown' k hk => by
    obtain ⟨_, _, hf⟩ := hown'.form
    rcases hf with ⟨hA, _⟩ | ⟨g, hA, hlo, hlt⟩
    · rw [hA] at hk; cases hk
    · rw [hA] at hk; simp only [blk, Option.some.injEq] at hk; subst hk; exact ⟨hlo, hlt⟩
  rcases h2 with ⟨hn0, hc0⟩ | ⟨h2, S0, cells, hown, he, h3, h4⟩
  · have hx0 : xs = [] := List.eq_nil_of_length_eq_zero (by rw [← h1, hn0])
    subst hx0; subst hn0; subst hc0
    rw [List.nil_append] at hR hblk
    rw [Nat.zero_add] at h63 hb
    refine yl_append0 ht hE hzs hsz ho hs hx hsrc (henc.ones hg) h63 hb hlo (fun hm0 => absurd hm0 (by omega)) fun hmp A' c' w' hown' hgr hA' => ?_
    · rw [hm] at hown' ⊢
      refine hR A' c' w' none ⟨rfl, .inr ⟨hblk hown', fun b => S b ∧ b < w.heap.size, _, hown', henc.mono fun c x hx => ?_, fun k hk hb => ?_, fun b hb => ⟨?_, Nat.lt_of_lt_of_le hb.2 hgr.size⟩⟩⟩ hgr (fun k h => by cases h) (fun k hk => ?_)
      · exact hg.keep (hg.wide hx fun b hb hl => ⟨hb, hl⟩) (fun b hb hl => hgr.block b hl (by intro h; cases h))
      · rw [hA'] at hk
        simp only [Option.some.injEq] at hk
        have := hb.2
        omega
      · have := hS b hb.1 hb.2; omega
      · rw [hA'] at hk
        simp only [Option.some.injEq] at hk
        omega
  · have hSA : ∀ k, blk A = some k → ¬ S k := fun k hk hs => by
      have h5 := h2 k hk
      have h6 := hbk k hk
      have := hS k hs (by omega)
      omega
    refine yl_append ht hE hzs hsz ho hs hx hown hsrc (henc.ones hg) h63 hb hlo fun A' c' w' hown' hgr hA' => ?_
    rw [hl] at hown' ⊢
    have hkeep0 : ∀ {cs x}, R w S0 cs x → R w' (fun b => (S0 b ∨ S b) ∧ b < w.heap.size ∧ lo ≤ b) cs x := fun hx =>
      hg.keep (hg.wide hx (fun b hb hl => ⟨.inl hb, hl, (h4 b hb).1⟩)) (fun b hb hl => hgr.block b hl (fun hh => by
        rcases hb.1 with h | h
        · exact h3 b hh.symm h
        · exact hSA b hh.symm h))
    have hkeep1 : ∀ {cs x}, R w S cs x → R w' (fun b => (S0 b ∨ S b) ∧ b < w.heap.size ∧ lo ≤ b) cs x := fun hx =>
      hg.keep (hg.wide hx (fun b hb hl => ⟨.inr hb, hl, by have := hS b hb hl; omega⟩)) (fun b hb hl => hgr.block b hl (fun hh => by
        rcases hb.1 with h | h
        · exact h3 b hh.symm h
        · exact hSA b hh.symm h))
    refine hR A' c' w' _ ⟨rfl, .inr ⟨hblk hown', _, _, hown', (he.mono fun c x hx => hkeep0 hx).append (henc.mono fun c x hx => hkeep1 hx), fun k hk => ?_, fun b hb => ⟨hb.2.2, Nat.lt_of_lt_of_le hb.2.1 hgr.size⟩⟩⟩ hgr (fun k hk => ⟨⟨(h2 k hk).1, hbk k hk⟩, (h2 k hk).2⟩) (fun k hk => ?_)
    rotate_left
    · rcases hA' with hA' | hA'
      · rw [hA'] at hk; exact ⟨hbk k hk, .inl (h2 k hk)⟩
      · rw [hA'] at hk
        simp only [blk, Option.some.injEq] at hk
        omega
    rintro ⟨hb, hl, _⟩
    rcases hA' with hA' | hA'
    · rw [hA'] at hk
      rcases hb with hb | hb
      · exact h3 k hk hb
      · exact hSA k hk hb
    · rw [hA'] at hk
      simp only [blk, Option.some.injEq] at hk
      omega
end
end Go.X
