/- New slices, append, stores into what the call owns. -/
import Derived.Test.YtdhfokkkpcelpaaGreatDoorE4
set_option linter.unusedVariables false
set_option linter.unusedSimpArgs false
namespace Go.X
open Go.RowKit
def blk : Option Addr → Option Nat
  | some a => some a.block
  | none => none
section
variable {P : Program} {o : Oper} {L : List (Nat × Value)} {w : World} {R : Value → World → Prop}
def Own (w : World) (lo : Nat) (E sz : Nat) (A : Option Addr) (n c : Nat) (cells : List Value) : Prop := w.ownsRow lo E sz (.slice A n c) n cells ∧ n ≤ 281474976710656
theorem Own.nil (w : World) (lo E sz : Nat) : Own w lo E sz none 0 0 [] := ⟨World.ownsRow_nil w lo E sz, by omega⟩
theorem Own.of_box {lo E sz b n : Nat} {cs : List Value} (h : Box w b E cs) (hlo : lo ≤ b) (hl : cs.length = n * sz) (hn : n ≤ 281474976710656) : Own w lo E sz (some ⟨b, 0, none⟩) n n cs :=
  ⟨⟨hl, .inr ⟨b, n, cs.toArray, rfl, hlo, h, Nat.le_refl _, by simp only [maxLen]; omega, by simp [hl], by simp [← hl]⟩⟩, hn⟩
theorem Own.len {lo E sz : Nat} {A : Option Addr} {n c : Nat} {cs : List Value} (h : Own w lo E sz A n c cs) : cs.length = n * sz := h.1.1
theorem Own.form {lo E sz : Nat} {A : Option Addr} {n c : Nat} {cs : List Value} (h : Own w lo E sz A n c cs) : n ≤ c ∧ c ≤ maxLen ∧ ((A = none ∧ n = 0) ∨ ∃ g, A = some ⟨g, 0, none⟩ ∧ lo ≤ g ∧ g < w.heap.size) := by
  obtain ⟨⟨h1, h2⟩, _⟩ := h
  rcases h2 with ⟨h2, h3⟩ | ⟨g, cap, cur, hv, hg, hh, hn, hc, _⟩
  · simp only [Value.slice.injEq] at h2
    exact ⟨by omega, by simp only [maxLen]; omega, .inl ⟨h2.1, h3⟩⟩
  · simp only [Value.slice.injEq] at hv
    refine ⟨by omega, by omega, .inr ⟨g, hv.1, hg, ?_⟩⟩
    rcases Nat.lt_or_ge g w.heap.size with hlt | hge
    · exact hlt
    · rw [Array.getElem?_eq_none hge] at hh; cases hh
theorem Own.cells {lo E sz g : Nat} {n c : Nat} {cs : List Value} (h : Own w lo E sz (some ⟨g, 0, none⟩) n c cs) : Cells w g 0 cs := by
  intro j u hu
  have := World.ownsRow.cells h.1 (g := g) rfl j u hu
  rw [add_none] at this
  exact this
theorem Own.keep {w' : World} {lo E sz : Nat} {A : Option Addr} {n c : Nat} {cs : List Value} (h : Own w lo E sz A n c cs) (hk : ∀ g, blk A = some g → w'.heap[g]? = w.heap[g]?) : Own w' lo E sz A n c cs := by
  obtain ⟨⟨h1, h2⟩, hn⟩ := h
  refine ⟨⟨h1, ?_⟩, hn⟩
  rcases h2 with h2 | ⟨g, cap, cur, hv, hg, hh, r⟩
  · exact .inl h2
  · refine .inr ⟨g, cap, cur, hv, hg, ?_, r⟩
    simp only [Value.slice.injEq] at hv
    rw [hk g (by rw [hv.1]; rfl)]; exact hh
theorem Own.ex {w' : World} {lo E sz : Nat} {A : Option Addr} {n c : Nat} {cs : List Value} (h : Own w lo E sz A n c cs) (e : Ex w w') : Own w' lo E sz A n c cs := by
  refine h.keep fun g hg => ?_
  obtain ⟨_, _, hf⟩ := h.form
  rcases hf with ⟨hA, _⟩ | ⟨g', hA, _, hlt⟩
  · subst hA; cases hg
  · subst hA
    simp only [blk, Option.some.injEq] at hg
    subst hg
    exact Below.block e g' hlt
theorem Own.only {w' : World} {lo E sz b : Nat} {A : Option Addr} {n c : Nat} {cs : List Value} (h : Own w lo E sz A n c cs) (e : Only b w w') (hn : blk A ≠ some b) : Own w' lo E sz A n c cs :=
  h.keep fun g hg => e.block g (fun hh => hn (hh ▸ hg))
theorem Own.grown {w' : World} {row : Option Nat} {lo E sz : Nat} {A : Option Addr} {n c : Nat} {cs : List Value} (h : Own w lo E sz A n c cs) (e : w.grownBy w' row) (hn : blk A = none ∨ blk A ≠ row) : Own w' lo E sz A n c cs := by
  refine h.keep fun g hg => ?_
  obtain ⟨_, _, hf⟩ := h.form
  rcases hf with ⟨hA, _⟩ | ⟨g', hA, _, hlt⟩
  · subst hA; cases hg
  · subst hA
    simp only [blk, Option.some.injEq] at hg
    subst hg
    refine e.block g' hlt fun hh => ?_
    rcases hn with hn | hn
    · cases hn
    · exact hn (by simp [blk, hh])
theorem run_append_of_nil {base t ty e : Nat} {i : TypeInfo} {size : Nat} (ht : P.underlying t = some (.slice e)) (hi : P.info? e = some i)
    {v : Value} {n : Nat} {xs : List Value} (hown : w.ownsRow base e size v n xs) (c : Nat) : (Builtin.append_ #[t, t] ty #[v, .slice none 0 c]).run P w = .ok v w := by
  rcases hown.2 with ⟨rfl, rfl⟩ | ⟨g, cap, cur, rfl, _, _, hnc, _⟩
  · simp [Builtin.append_, run_underlying ht, sizeOf, typeInfo, hi, Builtin.lenOf, Builtin.firstCells]
  · simp [Builtin.append_, run_underlying ht, sizeOf, typeInfo, hi, Builtin.lenOf, Builtin.firstCells, hnc, storeCells]
def Src (w : World) (sz : Nat) (B : Option Addr) (m : Nat) (news : List Value) : Prop := (m = 0 ∧ news = []) ∨ ∃ b off, B = some ⟨b, off, none⟩ ∧ news.length = m * sz ∧ Cells w b off news
theorem RdS.src {α : Type} {S : Nat → Prop} {Rl : Rel α} {sz : Nat} {A : Option Addr} {n c : Nat} {xs : List α} (h : RdS w S Rl sz A n c xs) : ∃ news, EncL (Rl w S) sz news xs ∧ Src w sz A n news := by
  obtain ⟨h1, h2, h3, cells, he, hc⟩ := h
  refine ⟨cells, he, ?_⟩
  rcases hc with h0 | ⟨b, off, hA, hS, hb, hc⟩
  · subst h0
    cases he
    subst h1
    exact .inl ⟨rfl, rfl⟩
  · exact .inr ⟨b, off, hA, by rw [he.length, h1], hc⟩
theorem yl_append {s x : Operand} {t E lo sz by_ : Nat} {z : Value} {ag : Bool} {A B : Option Addr} {n c m d : Nat} {xs news : List Value} (ht : P.underlying t = some (.slice E)) (hE : tyB P E = some (sz, by_, some z, ag)) (hzs : z.cells.size = sz) (hsz : 0 < sz)
    (ho : o.op = .call { callee := .builtin .append, args := #[s, x], argTypes := #[t, t] }) (hs : opv L s = some (.slice A n c)) (hx : opv L x = some (.slice B m d)) (hown : Own w lo E sz A n c xs) (hsrc : Src w sz B m news) (h1 : ∀ u ∈ news, u.oneCell' = true)
    (h63 : n + m ≤ 281474976710656) (hb : (n + m) * by_ ≤ 140737488355328) (hlo : lo ≤ w.heap.size)
    (hR : ∀ A' c' w', Own w' lo E sz A' (n + m) c' (xs ++ news) → w.grownBy w' (blk A) → (A' = A ∨ A' = some ⟨w.heap.size, 0, none⟩) → R (.slice A' (n + m) c') w') : Yl P o L w R := fun ρ hρ => by
  obtain ⟨ie, de, hi, _, hs1, hb1, hz1, _⟩ := tyB.spec hE
  have hob : ∀ (A : Option Addr) (n c : Nat), (Value.slice A n c).ownBlock = blk A := by
    intro A n c; cases A <;> rfl
  have key : ∃ v' w', (Builtin.append_ #[t, t] o.type #[.slice A n c, .slice B m d]).run P w = .ok v' w' ∧ w'.ownsRow lo E sz v' (n + m) (xs ++ news) ∧ w.grownBy w' (blk A) ∧ (v'.ownBlock = blk A ∨ v'.ownBlock = some w.heap.size) := by
    rcases hsrc with ⟨hm, hn⟩ | ⟨b, off, hB, hl, hc⟩
    · subst hm; subst hn
      rcases B with _ | ad
      case some =>
        obtain ⟨v', w', hrun, h2, h3, _, h5⟩ := run_append_own_at (P := P) w lo t o.type E ie z sz by_ ht hi hz1 hs1 hb1 hzs hsz _ n xs hown.1 ad 0 d [] (by simp) (fun j u hu => by simp at hu) (fun u hu => by cases hu) (by simp only [maxLen]; omega) hb hlo
        rw [hob] at h3 h5
        exact ⟨v', w', hrun, h2, h3, h5⟩
      refine ⟨_, w, run_append_of_nil ht hi hown.1 d, by rw [List.append_nil]; exact hown.1, ?_, .inl (hob _ _ _)⟩
      exact ⟨rfl, rfl, rfl, Nat.le_refl _, fun _ _ _ => rfl⟩
    · subst hB
      obtain ⟨v', w', hrun, h2, h3, _, h5⟩ := run_append_own_at (P := P) w lo t o.type E ie z sz by_ ht hi hz1 hs1 hb1 hzs hsz _ n xs hown.1 ⟨b, off, none⟩ m d news hl (fun j u hu => by rw [add_none]; exact hc j u hu) h1 (by simp only [maxLen]; omega) hb hlo
      rw [hob] at h3 h5
      exact ⟨v', w', hrun, h2, h3, h5⟩
  obtain ⟨v', w', hrun, h2, h3, h4⟩ := key
  have hform : ∃ A' c', v' = .slice A' (n + m) c' ∧ (A' = A ∨ A' = some ⟨w.heap.size, 0, none⟩) := by
    obtain ⟨hl, hf⟩ := h2
    obtain ⟨_, _, hfA⟩ := hown.form
    rcases hf with ⟨hv, hn0⟩ | ⟨g, cap, cur, hv, hg, _⟩
    · refine ⟨none, 0, by rw [hv, hn0], ?_⟩
      subst hv
      rcases h4 with h4 | h4
      · cases A with
        | none => exact .inl rfl
        | some a => cases h4
      · cases h4
    · refine ⟨some ⟨g, 0, none⟩, cap, hv, ?_⟩
      subst hv
      rcases h4 with h4 | h4
      · rcases hfA with ⟨hA, _⟩ | ⟨g', hA, _, _⟩
        · subst hA; cases h4
        · subst hA
          simp only [Value.ownBlock, blk, Option.some.injEq] at h4
          subst h4
          exact .inl rfl
      · simp only [Value.ownBlock, Option.some.injEq] at h4
        subst h4
        exact .inr rfl
  obtain ⟨A', c', hv', hA'⟩ := hform
  subst hv'
  have e : (execOp ρ o).run P w = .ok (.value (.slice A' (n + m) c')) w' := by
    simp [execOp, ho, resolve, hρ s _ hs, hρ x _ hx, invoke, builtin, hrun]
  unfold YlR
  rw [e]
  exact hR _ _ _ ⟨h2, h63⟩ h3 hA'
theorem run_append_any0 {t ty E : TypeId} {ie : TypeInfo} {z : Value} (ht : P.underlying t = some (.slice E)) (hi : P.info? E = some ie) (hz : ie.zero = some z) (A : Option Addr) {ad : Addr} {m d : Nat} {news : List Value} (hl : news.length = m * ie.size) (hc : ∀ j v, news[j]? = some v → w.cell? (ad.add j) = some v)
    (h0 : 0 < m) (h63 : m ≤ 281474976710656) (hb : m * ie.bytes ≤ 140737488355328) : (Builtin.append_ #[t, t] ty #[.slice A 0 0, .slice (some ad) m d]).run P w = (Builtin.append_ #[t, t] ty #[.slice none 0 0, .slice (some ad) m d]).run P w := by
  rcases A with _ | b
  · rfl
  · have h1 := run_append_grow (P := P) w t ty E ie z ht hi hz b 0 0 [] (by simp) (fun j v h => by simp at h) ad m d news hl hc (by omega) (by omega) (by rw [Nat.zero_add]; exact growslice_fits h0 hb)
    have h2 := run_append_nil (P := P) w t ty E ie z ht hi hz ad m d news hl hc h0 (by omega) (by omega)
    rw [h1, h2]
    simp only [Nat.zero_add]
    have : (#[] : Array Value) ++ news.toArray = news.toArray := by simp
    rw [show (([] : List Value).toArray) = #[] from rfl, this]
theorem yl_append0 {s x : Operand} {t E lo sz by_ : Nat} {z : Value} {ag : Bool} {A B : Option Addr} {m d : Nat} {news : List Value} (ht : P.underlying t = some (.slice E)) (hE : tyB P E = some (sz, by_, some z, ag)) (hzs : z.cells.size = sz) (hsz : 0 < sz)
    (ho : o.op = .call { callee := .builtin .append, args := #[s, x], argTypes := #[t, t] }) (hs : opv L s = some (.slice A 0 0)) (hx : opv L x = some (.slice B m d)) (hsrc : Src w sz B m news) (h1 : ∀ u ∈ news, u.oneCell' = true)
    (h63 : m ≤ 281474976710656) (hb : m * by_ ≤ 140737488355328) (hlo : lo ≤ w.heap.size)
    (h0 : m = 0 → R (.slice A 0 0) w)
    (hR : 0 < m → ∀ A' c' w', Own w' lo E sz A' m c' news → w.grownBy w' none → blk A' = some w.heap.size → R (.slice A' m c') w') : Yl P o L w R := fun ρ hρ => by
  obtain ⟨ie, de, hi, hd, hs1, hb1, hz1, ha1⟩ := tyB.spec hE
  rcases Nat.eq_zero_or_pos m with hm | hm
  · subst hm
    have e1 : (Builtin.append_ #[t, t] o.type #[.slice A 0 0, .slice B 0 d]).run P w = .ok (.slice A 0 0) w := by
      rcases A with _ | b <;> rcases B with _ | b' <;> simp [Builtin.append_, run_underlying ht, sizeOf, typeInfo, hi, Builtin.lenOf, Builtin.firstCells, loadCells, loadCellsFrom, storeCells]
    have e : (execOp ρ o).run P w = .ok (.value (.slice A 0 0)) w := by
      simp [execOp, ho, resolve, hρ s _ hs, hρ x _ hx, invoke, builtin, e1]
    unfold YlR
    rw [e]
    exact h0 rfl
  · rcases hsrc with ⟨hm0, _⟩ | ⟨b, off, hB, hl, hc⟩
    · omega
    · subst hB
      have hl' : news.length = m * ie.size := by rw [hl, hs1]
      have hc' : ∀ j v, news[j]? = some v → w.cell? ((⟨b, off, none⟩ : Addr).add j) = some v := fun j u hu => by rw [add_none]; exact hc j u hu
      have e0 := run_append_any0 (P := P) (w := w) (ty := o.type) ht hi hz1 A hl' hc' (d := d) hm h63 (by rw [hb1]; exact hb)
      have hown := (Own.nil w lo E sz)
      obtain ⟨v', w', hrun, h2, h3, h4, h5⟩ := run_append_own_at (P := P) w lo t o.type E ie z sz by_ ht hi hz1 hs1 hb1 hzs hsz _ 0 [] hown.1 ⟨b, off, none⟩ m d news hl hc' h1 (by simp only [maxLen]; omega) (by rw [Nat.zero_add]; exact hb) hlo
      rw [Nat.zero_add, List.nil_append] at h2
      have hform : ∃ A' c', v' = .slice A' m c' ∧ blk A' = some w.heap.size := by
        rcases h2.2 with ⟨hv, hn0⟩ | ⟨g, cap, cur, hv, hg, _⟩
        · omega
        · refine ⟨some ⟨g, 0, none⟩, cap, hv, ?_⟩
          subst hv
          rcases h5 with h5 | h5
          · cases h5
          · exact h5
      obtain ⟨A', c', hv', hA'⟩ := hform
      subst hv'
      have e : (execOp ρ o).run P w = .ok (.value (.slice A' m c')) w' := by
        simp [execOp, ho, resolve, hρ s _ hs, hρ x _ hx, invoke, builtin, e0, hrun]
      unfold YlR
      rw [e]
      exact hR hm _ _ _ ⟨h2, h63⟩ h3 hA'
def zeros (z : List Value) : Nat → List Value
  | 0 => []
  | n + 1 => z ++ zeros z n
theorem zeros_length (z : List Value) (n : Nat) : (zeros z n).length = n * z.length := by
  induction n with
  | zero => simp [zeros]
  | succ n ih => simp [zeros, ih, Nat.add_mul, Nat.add_comm]
theorem zeros_get (z : List Value) : ∀ (n j : Nat), j < n * z.length → (zeros z n)[j]? = z[j % z.length]?
  | 0, j, h => by simp at h
  | n + 1, j, h => by
    simp only [zeros]
    rw [List.getElem?_append]
    split
    · rename_i hj; rw [Nat.mod_eq_of_lt hj]
    · rename_i hj
      rw [zeros_get z n (j - z.length) (by rw [Nat.add_mul] at h; omega)]
      rw [← Nat.mod_eq_sub_mod (by omega)]
theorem zeros_made (z : List Value) (n : Nat) (hz : 0 < z.length) : madeCells z.toArray (n * z.length) = (zeros z n).toArray := by
  apply Array.ext'
  apply List.ext_getElem?
  intro j
  rw [List.toList_toArray]
  by_cases hj : j < n * z.length
  · rw [zeros_get z n j hj]
    have hm : j % z.length < z.length := Nat.mod_lt _ hz
    simp [madeCells, hj, hm]
  · have h1 : (zeros z n).length ≤ j := by rw [zeros_length]; omega
    have h2 : (madeCells z.toArray (n * z.length)).toList.length ≤ j := by simp [madeCells]; omega
    rw [List.getElem?_eq_none h1, List.getElem?_eq_none h2]
theorem EncL.zeros {α : Type} {Rl : List Value → α → Prop} {z : List Value} {x : α} (h : Rl z x) (n : Nat) : EncL Rl z.length (zeros z n) (List.replicate n x) := by
  induction n with
  | zero => exact .nil
  | succ n ih => rw [List.replicate_succ]; exact .cons rfl h ih
theorem yl_make {x y : Operand} {t E sz by_ : Nat} {z : Value} {zs : List Value} {ag : Bool} {n : Nat} {k k' : IntKind} (ht : P.underlying t = some (.slice E)) (hE : tyB P E = some (sz, by_, some z, ag)) (hzs : z.cells = zs.toArray) (hzl : zs.length = sz) (hsz : 0 < sz) (ho : o.op = .makeSlice t x y)
    (hx : opv L x = some (.int k (n : Int))) (hy : opv L y = some (.int k' (n : Int))) (hb : by_ * n ≤ 140737488355328) (hn : n ≤ 9223372036854775807)
    (hR : ∀ b w', w.heap.size = b → w'.heap.size = b + 1 → Box w' b E (zeros zs n) → Ex w w' → R (.slice (some ⟨b, 0, none⟩) n n) w') : Yl P o L w R := fun ρ hρ => by
  obtain ⟨ie, de, hi, _, hs1, hb1, hz1, _⟩ := tyB.spec hE
  have hbb : (ie.bytes : Int) * (n : Int) ≤ 281474976710656 := by
    have h : ((ie.bytes * n : Nat) : Int) ≤ 281474976710656 := by rw [hb1]; omega
    rwa [Int.natCast_mul] at h
  have hrun := run_make (P := P) w t E ie z ht hi hz1 k k' n n (by omega) (by omega) hbb (by omega)
  simp only [Int.toNat_natCast] at hrun
  rw [hs1, hzs, ← hzl, zeros_made zs n (by omega)] at hrun
  obtain ⟨h1, h2, h3⟩ := alloc_facts w (zeros zs n) E
  have e : (execOp ρ o).run P w = .ok (.value (.slice (some ⟨w.heap.size, 0, none⟩) n n)) (w.alloc (.cells (zeros zs n).toArray E)) := by
    simp [execOp, ho, hρ x _ hx, hρ y _ hy, hrun]
  unfold YlR
  rw [e]
  exact hR _ _ rfl h1 h2 h3
theorem Own.box {lo E sz g n c : Nat} {cs : List Value} (h : Own w lo E sz (some ⟨g, 0, none⟩) n c cs) : ∃ rest, Box w g E (cs ++ rest) ∧ rest.length = (c - n) * sz ∧ n ≤ c ∧ c ≤ maxLen ∧ lo ≤ g := by
  obtain ⟨⟨h1, h2⟩, hn⟩ := h
  rcases h2 with ⟨h2, h3⟩ | ⟨g', cap, cur, hv, hg, hh, hn', hc, hs, ht⟩
  · cases h2
  · simp only [Value.slice.injEq, Option.some.injEq, Addr.mk.injEq, and_true, true_and] at hv
    obtain ⟨rfl, rfl⟩ := hv
    refine ⟨cur.toList.drop (n * sz), ?_, ?_, hn', hc, hg⟩
    · unfold Box
      rw [← ht, List.take_append_drop]
      simpa using hh
    · rw [List.length_drop]
      simp only [Array.length_toList, hs]
      rw [Nat.sub_mul]
theorem Own.of_box' {lo E sz g n c : Nat} {cs rest : List Value} (h : Box w g E (cs ++ rest)) (hl : cs.length = n * sz) (hr : rest.length = (c - n) * sz) (hnc : n ≤ c) (hc : c ≤ maxLen) (hg : lo ≤ g) (hn : n ≤ 281474976710656) : Own w lo E sz (some ⟨g, 0, none⟩) n c cs := by
  refine ⟨⟨hl, .inr ⟨g, c, (cs ++ rest).toArray, rfl, hg, h, hnc, hc, ?_, ?_⟩⟩, hn⟩
  · simp only [List.size_toArray, List.length_append, hl, hr]
    rw [← Nat.add_mul]
    congr 1
    omega
  · rw [← hl]
    simp
theorem yl_storeOwn {x y : Operand} {T E lo sz tz by_ g off n c : Nat} {z : Option Value} {ag : Bool} {v : Value} {vs cs : List Value} (hT : tyB P T = some (tz, by_, z, ag)) (ho : o.op = .store T x y) (hx : opv L x = some (.pointer (some ⟨g, off, none⟩)))
    (hy : opv L y = some v) (hc : v.cells = vs.toArray) (hl : vs.length = tz) (h1 : vs.all Value.oneCell' = true) (hown : Own w lo E sz (some ⟨g, 0, none⟩) n c cs) (hoff : off + tz ≤ cs.length)
    (hR : ∀ w', Own w' lo E sz (some ⟨g, 0, none⟩) n c (splice cs off vs) → Only g w w' → R undef w') : Yl P o L w R := by
  obtain ⟨rest, hB, hr, hnc, hcm, hlo⟩ := hown.box
  refine yl_store hT ho hx hy hc hl h1 hB (by rw [List.length_append]; omega) fun w' hB' hO => hR w' ?_ hO
  have e : splice (cs ++ rest) off vs = splice cs off vs ++ rest := by
    simp only [splice]
    rw [List.take_append_of_le_length (by omega), List.drop_append_of_le_length (by omega)]
    simp only [List.append_assoc]
  rw [e] at hB'
  exact Own.of_box' hB' (by rw [splice_length (by omega)]; exact hown.len) hr hnc hcm hlo hown.2
def builtS (P : Program) (E len : Nat) (parts : List (Nat × Value)) : Option (Array Value) :=
  match tyB P E with
  | some (sz, _, some z, _) => Instr.fill (fun i => some (i * sz, sz)) ((Array.range (len * sz)).map (z.cells[· % z.cells.size]!)) parts
  | _ => none
theorem yl_buildSlice {t E len sz by_ : Nat} {z : Value} {ag : Bool} {parts : List (Nat × Operand)} {vs cs : List Value} (ht : P.underlying t = some (.slice E)) (hE : tyB P E = some (sz, by_, some z, ag)) (hlen : len * sz ≤ 16777216) (ho : o.op = .buildSlice t len parts.toArray)
    (ha : opvs L (parts.map (·.2)) = some vs) (hb : builtS P E len ((parts.map (·.1)).zip vs) = some cs.toArray)
    (hR : ∀ b w', w.heap.size = b → w'.heap.size = b + 1 → Box w' b E cs → Ex w w' → R (.slice (some ⟨b, 0, none⟩) len len) w') : Yl P o L w R := fun ρ hρ => by
  obtain ⟨h1, h2, h3⟩ := alloc_facts w cs E
  have hm := hρ.map ha
  have e : parts.map (fun p => (p.1, ρ p.2)) = (parts.map (·.1)).zip vs := by
    rw [← hm, List.map_map]
    clear hm ha hb ho hR
    induction parts with
    | nil => rfl
    | cons p ps ih => simp only [List.map_cons, List.zip_cons_cons, ih, Function.comp]
  unfold builtS at hb
  rw [hE] at hb
  simp only at hb
  have e' : parts.map (fun x => match x with | (i, x) => (i, ρ x)) = (parts.map (·.1)).zip vs := e
  have hl : ¬ (2 ^ 24 < len * sz) := by omega
  have e2 : (execOp ρ o).run P w = .ok (.value (.slice (some ⟨w.heap.size, 0, none⟩) len len)) (w.alloc (.cells cs.toArray E)) := by
    by_cases h0 : len * sz = 0
    · rw [h0] at hb
      have r0 : Array.range 0 = #[] := rfl
      simp only [r0, Array.map_empty] at hb
      have hn : ¬ (0 > 2 ^ 24) := by omega
      simp only [execOp, ho, Instr.buildSlice, List.map_toArray, Sem.run_bind, run_underlying ht, Result.andThen_ok, run_size hE, h0, if_true, if_neg hn, Sem.run_pure, pure_bind, r0, List.map_nil, List.toList_toArray, e']
      rw [hb]
      simp [newRow]
    · simp only [execOp, ho, Instr.buildSlice, List.map_toArray, Sem.run_bind, run_underlying ht, Result.andThen_ok, run_size hE, h0, if_false, run_zero hE, Sem.run_pure, gt_iff_lt, hl, List.toList_toArray, e', hb]
      simp [newRow]
  unfold YlR
  rw [e2]
  exact hR _ _ rfl h1 h2 h3
theorem yl_slice {x : Operand} {t E sz by_ : Nat} {z : Option Value} {ag : Bool} {A : Option Addr} {n c l h : Nat} {kl kh : IntKind} {lo hi : Option Operand} (ht : P.underlying t = some (.slice E)) (hE : tyB P E = some (sz, by_, z, ag)) (ho : o.op = .slice t x lo hi none) (hx : opv L x = some (.slice A n c))
    (hlo : (lo = none ∧ l = 0) ∨ ∃ y, lo = some y ∧ opv L y = some (.int kl (l : Int))) (hhi : (hi = none ∧ h = n) ∨ ∃ y, hi = some y ∧ opv L y = some (.int kh (h : Int))) (hlh : l ≤ h) (hhc : h ≤ c)
    (hR : R (.slice (if c = l then A else A.map (·.add (l * sz))) (h - l) (c - l)) w) : Yl P o L w R :=
  .val (fun ρ hρ => by
    rcases hlo with ⟨hlo, hl⟩ | ⟨y, hlo, hl⟩ <;> rcases hhi with ⟨hhi, hh⟩ | ⟨y', hhi, hh⟩ <;> subst hlo <;> subst hhi
    · subst hl; subst hh
      simp [execOp, ho, hρ x _ hx, Instr.sliceAt, Instr.slice, run_underlying ht, Instr.sliceBounds, run_size hE]
    · subst hl
      have h2 : (0 : Int) ≤ h := by omega
      simp [execOp, ho, hρ x _ hx, hρ y' _ hh, Instr.sliceAt, Instr.slice, run_underlying ht, Instr.sliceBounds, Instr.sliceBound, asIntOf, run_size hE, hhc]
    · subst hh
      simp [execOp, ho, hρ x _ hx, hρ y _ hl, Instr.sliceAt, Instr.slice, run_underlying ht, Instr.sliceBounds, Instr.sliceBound, asIntOf, run_size hE, hlh]
    · simp [execOp, ho, hρ x _ hx, hρ y _ hl, hρ y' _ hh, Instr.sliceAt, Instr.slice, run_underlying ht, Instr.sliceBounds, Instr.sliceBound, asIntOf, run_size hE, hhc, hlh]) hR
end
end Go.X
