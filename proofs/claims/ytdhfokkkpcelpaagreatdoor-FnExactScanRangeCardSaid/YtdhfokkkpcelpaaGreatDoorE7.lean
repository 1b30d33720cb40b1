/- More words for the printed proofs. -/
import Derived.Test.YtdhfokkkpcelpaaGreatDoorE6
set_option linter.unusedVariables false
set_option linter.unusedSimpArgs false
namespace Go.X
open Go.RowKit
section
variable {P : Program} {o : Oper} {L : List (Nat × Value)} {w : World} {R : Value → World → Prop}
theorem wrap_i64_id (a : Int) (h0 : -9223372036854775808 ≤ a) (h1 : a ≤ 9223372036854775807) : IntKind.wrap .i64 a = a := by
  rw [IntKind.wrap_i64]; omega
theorem yl_inc {x y : Operand} {t t' : TypeId} {k : Nat} (ho : o.op = .binOp .add t x y t') (hx : opv L x = some (.int .i64 (k : Int))) (hy : opv L y = some (.int .i64 1)) (hk : k + 1 ≤ 9223372036854775807) (hR : R (.int .i64 ((k + 1 : Nat) : Int)) w) : Yl P o L w R :=
  yl_add ho hx hy (by
    have e : IntKind.wrap .i64 ((k : Int) + 1) = ((k + 1 : Nat) : Int) := by rw [wrap_i64_id _ (by omega) (by omega)]; omega
    rw [e]; exact hR)
theorem yl_indexAddrN {x y : Operand} {t e : TypeId} {A : Option Addr} {n c b off sz by_ : Nat} {z : Option Value} {ag : Bool} {i : Nat} {k : IntKind} (hu : P.underlying t = some (.slice e)) (he : tyB P e = some (sz, by_, z, ag))
    (ho : o.op = .indexAddr t x y) (hx : opv L x = some (.slice A n c)) (hy : opv L y = some (.int k (i : Int))) (hA : A = some ⟨b, off, none⟩) (h1 : i < n) (hR : R (.pointer (some ⟨b, off + i * sz, none⟩)) w) : Yl P o L w R :=
  yl_indexAddr hu he ho hx hy hA (by omega) (by omega) hR
theorem yl_sindexN {x y : Operand} {t : TypeId} {a : Str} (hu : P.underlying t = some .string) {i : Nat} {k : IntKind} (ho : o.op = .index t x y) (hx : opv L x = some (.string (bs a))) (hy : opv L y = some (.int k (i : Int))) (h1 : i < a.length)
    (hR : R (.int .u8 (a.getD i 0).toNat) w) : Yl P o L w R :=
  yl_sindex hu ho hx hy (by omega) (by omega) hR
theorem fieldB.spec {t : TypeId} {k fo sz : Nat} {ag : Bool} (hf : fieldB P t k = some (fo, sz, ag)) : ∃ fs f i d, P.underlying t = some (.struct fs) ∧ fs[k]? = some f ∧ P.info? f.type = some i ∧ P.underlying f.type = some d ∧ f.offset = fo ∧ i.size = sz ∧ aggD d = ag := by
  unfold fieldB at hf
  split at hf
  · rename_i fs hu
    split at hf
    · rename_i f hfk
      split at hf
      · rename_i sz' by_ z ag' hty
        simp only [Option.some.injEq, Prod.mk.injEq] at hf
        obtain ⟨h1, h2, h3⟩ := hf
        obtain ⟨ie, d, hi, hd, hsz, _, _, hag⟩ := tyB.spec hty
        exact ⟨fs, f, ie, d, hu, hfk, hi, hd, h1, by omega, by rw [hag, h3]⟩
      · cases hf
    · cases hf
  · cases hf
theorem toNat_op {x : Operand} {k : IntKind} {n : Int} (hx : opv L x = some (.int k n)) (h0 : 0 ≤ n) : opv L x = some (.int k ((n.toNat : Nat) : Int)) := by
  rw [hx, Int.toNat_of_nonneg h0]
theorem yl_sslice_lo {x y : Operand} {t : TypeId} {a : Str} {l : Nat} {k : IntKind} (hu : P.underlying t = some .string) (ho : o.op = .slice t x (some y) none none) (hx : opv L x = some (.string (bs a))) (hy : opv L y = some (.int k (l : Int))) (hl : l ≤ a.length) (hR : R (.string (bs (a.drop l))) w) : Yl P o L w R :=
  yl_sslice (kh := .i64) hu ho hx hy (show a.length = a.length from rfl) hl (Nat.le_refl _) (by rw [List.take_length]; exact hR)
theorem yl_sslice_hi {x y : Operand} {t : TypeId} {a : Str} {h : Nat} {k : IntKind} (hu : P.underlying t = some .string) (ho : o.op = .slice t x none (some y) none) (hx : opv L x = some (.string (bs a))) (hy : opv L y = some (.int k (h : Int))) (hh : h ≤ a.length) (hR : R (.string (bs (a.take h))) w) : Yl P o L w R :=
  yl_sslice (kl := .i64) hu ho hx (show (0 : Nat) = 0 from rfl) hy (Nat.zero_le _) hh (by rw [List.drop_zero]; exact hR)
theorem yl_sslice_lh {x y y' : Operand} {t : TypeId} {a : Str} {l h : Nat} {k k' : IntKind} (hu : P.underlying t = some .string) (ho : o.op = .slice t x (some y) (some y') none) (hx : opv L x = some (.string (bs a))) (hy : opv L y = some (.int k (l : Int))) (hy' : opv L y' = some (.int k' (h : Int))) (hl : l ≤ h) (hh : h ≤ a.length) (hR : R (.string (bs ((a.take h).drop l))) w) : Yl P o L w R :=
  yl_sslice hu ho hx hy hy' hl hh hR
theorem yl_sliceR {x : Operand} {t E sz by_ : Nat} {z : Option Value} {ag : Bool} {A A' : Option Addr} {n c c' m l h : Nat} {kl kh : IntKind} {lo hi : Option Operand} (ht : P.underlying t = some (.slice E)) (hE : tyB P E = some (sz, by_, z, ag)) (ho : o.op = .slice t x lo hi none) (hx : opv L x = some (.slice A n c))
    (hlo : (lo = none ∧ l = 0) ∨ ∃ y, lo = some y ∧ opv L y = some (.int kl (l : Int))) (hhi : (hi = none ∧ h = n) ∨ ∃ y, hi = some y ∧ opv L y = some (.int kh (h : Int))) (hlh : l ≤ h) (hhc : h ≤ c)
    (he : (if c = l then A else A.map (·.add (l * sz))) = A' ∧ h - l = m ∧ c - l = c') (hR : R (.slice A' m c') w) : Yl P o L w R := by
  obtain ⟨h1, h2, h3⟩ := he
  exact yl_slice ht hE ho hx hlo hhi hlh hhc (by rw [h1, h2, h3]; exact hR)
theorem opvs_nil : opvs L [] = some [] := rfl
theorem opvs_cons {x : Operand} {v : Value} {xs : List Operand} {vs : List Value} (h : opv L x = some v) (hs : opvs L xs = some vs) : opvs L (x :: xs) = some (v :: vs) := by
  simp only [opvs, h, hs]
theorem lt_t {k n : Nat} (h : k < n) : decide ((k : Int) < (n : Int)) = true := by simpa using h
theorem lt_f {k n : Nat} (h : n ≤ k) : decide ((k : Int) < (n : Int)) = false := by simpa using h
end
theorem Cells.sub {w : World} {b o : Nat} {cs : List Value} (h : Cells w b o cs) (d n : Nat) : Cells w b (o + d) ((cs.drop d).take n) := by
  intro j u hu
  rw [List.getElem?_take] at hu
  split at hu
  · rw [List.getElem?_drop] at hu
    rw [Nat.add_assoc]
    exact h _ _ hu
  · cases hu
theorem Box.grown {w w' : World} {row : Option Nat} {b : Nat} {T : TypeId} {cs : List Value} (h : Box w b T cs) (e : w.grownBy w' row) (hn : ∀ k, row = some k → k ≠ b) : Box w' b T cs :=
  (e.block b h.lt fun hh => hn b hh.symm rfl).trans h
theorem RdS.sl {α : Type} {w : World} {S : Nat → Prop} {R : Rel α} {sz : Nat} {A : Option Addr} {n c : Nat} {xs : List α} (h : RdS w S R sz A n c xs) : ∃ A' c', (A = A' ∧ n = xs.length ∧ c = c') ∧ RdS w S R sz A' xs.length c' xs :=
  ⟨A, c, ⟨rfl, h.1, rfl⟩, h.1 ▸ h⟩
def Any : Nat → Prop := fun _ => True
def Ge (lo : Nat) : Nat → Prop := fun b => lo ≤ b
/-! ### short strings -/
def okS (s : Str) : Prop := s.length ≤ 1073741824
def okL {α : Type} (ok : α → Prop) (xs : List α) : Prop := xs.length ≤ 2147483648 ∧ ∀ x ∈ xs, ok x
theorem okL.nil {α : Type} (ok : α → Prop) : okL ok [] := ⟨by simp, fun _ h => by cases h⟩
theorem okL.getD {α : Type} {ok : α → Prop} {xs : List α} {d : α} (h : okL ok xs) (hd : ok d) (i : Nat) : ok (xs.getD i d) := by
  rw [List.getD_eq_getElem?_getD]
  rcases hx : xs[i]? with _ | x
  · exact hd
  · exact h.2 x (List.mem_of_getElem? hx)
theorem okL.drop {α : Type} {ok : α → Prop} {xs : List α} (h : okL ok xs) (k : Nat) : okL ok (xs.drop k) := ⟨by rw [List.length_drop]; have := h.1; omega, fun y hy => h.2 y (List.mem_of_mem_drop hy)⟩
theorem okL.take {α : Type} {ok : α → Prop} {xs : List α} (h : okL ok xs) (k : Nat) : okL ok (xs.take k) := ⟨by rw [List.length_take]; have := h.1; omega, fun y hy => h.2 y (List.mem_of_mem_take hy)⟩
def okT {α : Type} : α → Prop := fun _ => True
theorem ok_d_Str : okS [] := by unfold okS; simp
theorem okS.take {s : Str} (h : okS s) (k : Nat) : okS (s.take k) := by unfold okS at *; rw [List.length_take]; omega
theorem okS.drop {s : Str} (h : okS s) (k : Nat) : okS (s.drop k) := by unfold okS at *; rw [List.length_drop]; omega
theorem EncL.zerosF {α : Type} {enc : α → List Value} {w : World} {S : Nat → Prop} {zs : List Value} {d : α} (h : zs = enc d) : ∀ n : Nat, EncL (RF enc w S) zs.length (Go.X.zeros zs n) (List.replicate n d)
  | 0 => EncL.nil
  | n + 1 => EncL.cons rfl h (EncL.zerosF h n)
def d_Str : Str := []
def d_Int : Int := 0
def e_Str (s : Str) : List Value := [.string (bs s)]
def e_Int (n : Int) : List Value := [.int .i64 n]
def e_Bool (b : Bool) : List Value := [.bool b]
theorem good_Str : Gd (RF e_Str) := RF.good fun _ => rfl
theorem good_Int : Gd (RF e_Int) := RF.good fun _ => rfl
/-! ### Lists that the call owns -/
theorem EncL.ones {α : Type} {R : Rel α} (hg : Gd R) {w : World} {S : Nat → Prop} {sz : Nat} {cs : List Value} {xs : List α} (h : EncL (R w S) sz cs xs) : ∀ u ∈ cs, u.oneCell' = true := by
  induction h with
  | nil => intro u hu; cases hu
  | @cons c x cs xs hl h hs ih =>
    intro u hu
    rcases List.mem_append.1 hu with hu | hu
    · exact List.all_eq_true.1 (hg.one h) u hu
    · exact ih u hu
def OwnN {α : Type} (w : World) (lo hi E sz : Nat) (R : Rel α) (A : Option Addr) (n c : Nat) (xs : List α) : Prop :=
  (∀ k, blk A = some k → lo ≤ k ∧ k < hi) ∧ ∃ S cells, Own w lo E sz A n c cells ∧ EncL (R w S) sz cells xs ∧ (∀ k, blk A = some k → ¬ S k) ∧ (∀ b, S b → lo ≤ b ∧ b < hi)
def OwnL {α : Type} (w : World) (lo hi E sz : Nat) (R : Rel α) (A : Option Addr) (n c : Nat) (xs : List α) : Prop :=
  n = xs.length ∧ ((n = 0 ∧ c = 0) ∨ OwnN w lo hi E sz R A n c xs)
section
variable {α : Type} {w w' : World} {lo hi E sz : Nat} {R : Rel α} {A : Option Addr} {n c : Nat} {xs : List α}
theorem OwnN.keep (hg : Gd R) (h : OwnN w lo hi E sz R A n c xs) (hk : ∀ b, lo ≤ b → b < hi → b < w.heap.size → w'.heap[b]? = w.heap[b]?) : OwnN w' lo hi E sz R A n c xs := by
  obtain ⟨h2, S, cells, ho, he, h3, h4⟩ := h
  refine ⟨h2, S, cells, ho.keep fun g hgk => ?_, he.mono fun c x hx => hg.keep hx fun b hb hl => hk b (h4 b hb).1 (h4 b hb).2 hl, h3, h4⟩
  obtain ⟨_, _, hf⟩ := ho.form
  obtain ⟨k1, k2⟩ := h2 g hgk
  rcases hf with ⟨hA, _⟩ | ⟨g', hA, _, hlt⟩
  · subst hA; cases hgk
  · subst hA
    simp only [blk, Option.some.injEq] at hgk
    subst hgk
    exact hk _ k1 k2 hlt
theorem OwnL.keep (hg : Gd R) (h : OwnL w lo hi E sz R A n c xs) (hk : ∀ b, lo ≤ b → b < hi → b < w.heap.size → w'.heap[b]? = w.heap[b]?) : OwnL w' lo hi E sz R A n c xs :=
  ⟨h.1, h.2.imp id fun h => h.keep hg hk⟩
theorem OwnL.ex (hg : Gd R) (h : OwnL w lo hi E sz R A n c xs) (e : Ex w w') : OwnL w' lo hi E sz R A n c xs := h.keep hg fun b _ _ hl => Below.block e b hl
theorem OwnL.only (hg : Gd R) {b : Nat} (h : OwnL w lo hi E sz R A n c xs) (e : Only b w w') (hb : b < lo ∨ hi ≤ b) : OwnL w' lo hi E sz R A n c xs :=
  h.keep hg fun k h1 h2 _ => e.block k (by omega)
theorem OwnL.grown (hg : Gd R) {row : Option Nat} (h : OwnL w lo hi E sz R A n c xs) (e : w.grownBy w' row) (hb : ∀ k, row = some k → k < lo ∨ hi ≤ k) : OwnL w' lo hi E sz R A n c xs :=
  h.keep hg fun k h1 h2 hl => e.block k hl (fun hh => by have := hb k hh.symm; omega)
theorem OwnN.rd (hg : Gd R) (h1 : n = xs.length) (h : OwnN w lo hi E sz R A n c xs) : RdS w (Iv lo w.heap.size) R sz A n c xs := by
  obtain ⟨h2, S, cells, ho, he, h3, h4⟩ := h
  obtain ⟨f1, f2, hf⟩ := ho.form
  refine ⟨h1, f1, ⟨f2, ho.2⟩, cells, he.mono fun c x hx => hg.wide hx fun b hb hl => ⟨(h4 b hb).1, hl⟩, ?_⟩
  rcases hf with ⟨hA, hn⟩ | ⟨g, hA, hlo, hlt⟩
  · left; exact List.eq_nil_of_length_eq_zero (by omega)
  · right
    subst hA
    exact ⟨g, 0, rfl, ⟨hlo, hlt⟩, hlt, ho.cells⟩
theorem OwnL.rd (hg : Gd R) (h : OwnL w lo hi E sz R A n c xs) : RdS w (Iv lo w.heap.size) R sz A n c xs := by
  rcases h.2 with ⟨h0, hc⟩ | h2
  · have hx : xs = [] := List.eq_nil_of_length_eq_zero (by rw [← h.1, h0])
    subst hx; subst h0; subst hc
    exact RdS.nil _ _ _ _ _ _ (by decide)
  · exact h2.rd hg h.1
theorem OwnL.len (h : OwnL w lo hi E sz R A n c xs) : n = xs.length := h.1
theorem OwnL.full (h : OwnL w lo hi E sz R A n c xs) {i : Nat} (hi' : i < n) : OwnN w lo hi E sz R A n c xs := by
  rcases h.2 with ⟨h0, _⟩ | h2
  · omega
  · exact h2
theorem OwnL.rng (h : OwnL w lo hi E sz R A n c xs) {i : Nat} (hi' : i < n) : ∀ k, blk A = some k → lo ≤ k ∧ k < hi := (h.full hi').1
theorem OwnN.more {lo' hi' : Nat} (h : OwnN w lo hi E sz R A n c xs) (hl : lo' ≤ lo) (hh : hi ≤ hi') : OwnN w lo' hi' E sz R A n c xs := by
  obtain ⟨h2, S, cells, ho, he, h3, h4⟩ := h
  refine ⟨fun k hk => ?_, S, cells, ⟨⟨ho.1.1, ?_⟩, ho.2⟩, he, h3, fun b hb => ?_⟩
  · have := h2 k hk; omega
  · rcases ho.1.2 with hx | ⟨g, cap, cur, hv, hg, r⟩
    · exact .inl hx
    · exact .inr ⟨g, cap, cur, hv, by omega, r⟩
  · have := h4 b hb; omega
theorem OwnL.more {lo' hi' : Nat} (h : OwnL w lo hi E sz R A n c xs) (hl : lo' ≤ lo) (hh : hi ≤ hi') : OwnL w lo' hi' E sz R A n c xs :=
  ⟨h.1, h.2.imp id fun h => h.more hl hh⟩
theorem OwnL.nil (w : World) (lo hi E sz : Nat) (R : Rel α) : OwnL w lo hi E sz R none 0 0 [] := ⟨rfl, .inl ⟨rfl, rfl⟩⟩
theorem OwnL.empty (w : World) (lo hi E sz : Nat) (R : Rel α) (A : Option Addr) : OwnL w lo hi E sz R A 0 0 [] := ⟨rfl, .inl ⟨rfl, rfl⟩⟩
theorem OwnL.of_box {b : Nat} {cs : List Value} {S : Nat → Prop} (h : Box w b E cs) (hlo : lo ≤ b) (hbi : b < hi) (he : EncL (R w S) sz cs xs) (hn : xs.length ≤ 281474976710656) (hSb : ¬ S b) (hS : ∀ k, S k → lo ≤ k ∧ k < hi) : OwnL w lo hi E sz R (some ⟨b, 0, none⟩) xs.length xs.length xs :=
  ⟨rfl, .inr ⟨fun k hk => by simp only [Go.X.blk, Option.some.injEq] at hk; omega, S, cs, Own.of_box h hlo he.length hn, he, fun k hk => by simp only [Go.X.blk, Option.some.injEq] at hk; subst hk; exact hSb, hS⟩⟩
theorem OwnL.of_boxF {enc : α → List Value} {b : Nat} {cs : List Value} (h : Box w b E cs) (hlo : lo ≤ b) (hbi : b < hi) (he : EncL (RF enc w fun _ => False) sz cs xs) (hn : xs.length ≤ 281474976710656) : OwnL w lo hi E sz (RF enc) (some ⟨b, 0, none⟩) xs.length xs.length xs :=
  OwnL.of_box h hlo hbi he hn (fun h => h) (fun _ h => h.elim)
end
section
variable {α : Type} {P : Program} {o : Oper} {L : List (Nat × Value)} {w : World} {Q : Value → World → Prop} {R : Rel α}
theorem yl_appendL {s x : Operand} {t E lo hi sz by_ : Nat} {z : Value} {ag : Bool} {A B : Option Addr} {n c m d : Nat} {xs ys : List α} {S : Nat → Prop} {news : List Value} (hg : Gd R) (ht : P.underlying t = some (.slice E)) (hE : tyB P E = some (sz, by_, some z, ag)) (hzs : z.cells.size = sz) (hsz : 0 < sz)
    (ho : o.op = .call { callee := .builtin .append, args := #[s, x], argTypes := #[t, t] }) (hs : opv L s = some (.slice A n c)) (hx : opv L x = some (.slice B m d)) (hown : OwnL w lo hi E sz R A n c xs) (henc : EncL (R w S) sz news ys) (hsrc : Src w sz B m news) (hm : m = ys.length)
    (h63 : n + m ≤ 281474976710656) (hb : (n + m) * by_ ≤ 140737488355328) (hlo : lo ≤ w.heap.size) (hhi : hi ≤ w.heap.size) (hS : ∀ k, S k → k < w.heap.size → hi ≤ k) (hlh : lo ≤ hi)
    (hR : ∀ A' c' w' row, OwnL w' lo w'.heap.size E sz R A' (xs ++ ys).length c' (xs ++ ys) → w.grownBy w' row → (∀ k, row = some k → lo ≤ k ∧ k < hi) → Q (.slice A' (xs ++ ys).length c') w') : Yl P o L w Q := by
  obtain ⟨h1, h2⟩ := hown
  have hl : n + m = (xs ++ ys).length := by rw [List.length_append, h1, hm]
  have hblk : ∀ {A' c' w' cells}, Own w' lo E sz A' (xs ++ ys).length c' cells → ∀ k, blk A' = some k → lo ≤ k ∧ k < w'.heap.size := fun hown' k hk => by
    obtain ⟨_, _, hf⟩ := hown'.form
    rcases hf with ⟨hA, _⟩ | ⟨g, hA, hlo, hlt⟩
    · rw [hA] at hk; cases hk
    · rw [hA] at hk; simp only [blk, Option.some.injEq] at hk; subst hk; exact ⟨hlo, hlt⟩
  rcases h2 with ⟨hn0, hc0⟩ | ⟨h2, S0, cells, hown, he, h3, h4⟩
  · have hx0 : xs = [] := List.eq_nil_of_length_eq_zero (by rw [← h1, hn0])
    subst hx0; subst hn0; subst hc0
    rw [List.nil_append] at hR hblk
    rw [Nat.zero_add] at h63 hb
    refine yl_append0 ht hE hzs hsz ho hs hx hsrc (henc.ones hg) h63 hb hlo (fun hm0 => ?_) fun hmp A' c' w' hown' hgr hA' => ?_
    · have hy0 : ys = [] := List.eq_nil_of_length_eq_zero (by rw [← hm, hm0])
      subst hy0
      exact hR A 0 w none (OwnL.empty _ _ _ _ _ _ _) ⟨rfl, rfl, rfl, Nat.le_refl _, fun _ _ _ => rfl⟩ (fun k h => by cases h)
    · rw [hm] at hown' ⊢
      refine hR A' c' w' none ⟨rfl, .inr ⟨hblk hown', fun b => S b ∧ b < w.heap.size, _, hown', henc.mono fun c x hx => ?_, fun k hk hb => ?_, fun b hb => ⟨?_, Nat.lt_of_lt_of_le hb.2 hgr.size⟩⟩⟩ hgr (fun k h => by cases h)
      · exact hg.keep (hg.wide hx fun b hb hl => ⟨hb, hl⟩) (fun b hb hl => hgr.block b hl (by intro h; cases h))
      · rw [hA'] at hk
        simp only [Option.some.injEq] at hk
        have := hb.2
        omega
      · have := hS b hb.1 hb.2; omega
  · have hSA : ∀ k, blk A = some k → ¬ S k := fun k hk hs => by
      have h5 := h2 k hk
      have := hS k hs (by omega)
      omega
    refine yl_append ht hE hzs hsz ho hs hx hown hsrc (henc.ones hg) h63 hb hlo fun A' c' w' hown' hgr hA' => ?_
    rw [hl] at hown' ⊢
    have hkeep0 : ∀ {cs x}, R w S0 cs x → R w' (fun b => (S0 b ∨ S b) ∧ b < w.heap.size ∧ lo ≤ b) cs x := fun hx =>
      hg.keep (hg.wide hx (fun b hb hl => ⟨.inl hb, hl, (h4 b hb).1⟩)) (fun b hb hl => hgr.block b hl (fun hh => by
        rcases hb.1 with h | h
        · exact h3 b hh.symm h
        · exact hSA b hh.symm h))
    have hkeep1 : ∀ {cs x}, R w S cs x → R w' (fun b => (S0 b ∨ S b) ∧ b < w.heap.size ∧ lo ≤ b) cs x := fun hx =>
      hg.keep (hg.wide hx (fun b hb hl => ⟨.inr hb, hl, by have := hS b hb hl; omega⟩)) (fun b hb hl => hgr.block b hl (fun hh => by
        rcases hb.1 with h | h
        · exact h3 b hh.symm h
        · exact hSA b hh.symm h))
    refine hR A' c' w' _ ⟨rfl, .inr ⟨hblk hown', _, _, hown', (he.mono fun c x hx => hkeep0 hx).append (henc.mono fun c x hx => hkeep1 hx), fun k hk => ?_, fun b hb => ⟨hb.2.2, Nat.lt_of_lt_of_le hb.2.1 hgr.size⟩⟩⟩ hgr h2
    rintro ⟨hb, hl, _⟩
    rcases hA' with hA' | hA'
    · rw [hA'] at hk
      rcases hb with hb | hb
      · exact h3 k hk hb
      · exact hSA k hk hb
    · rw [hA'] at hk
      simp only [blk, Option.some.injEq] at hk
      omega
theorem yl_storeF {enc : α → List Value} {x y : Operand} {T E lo hi sz tz by_ off n c g i d : Nat} {z : Option Value} {ag : Bool} {v : Value} {vs : List Value} {xs : List α} {x' dx : α} {A : Option Addr} (hT : tyB P T = some (tz, by_, z, ag)) (ho : o.op = .store T x y)
    (hown : OwnL w lo hi E sz (RF enc) A n c xs) (hA : A = some ⟨g, off, none⟩) (hx : opv L x = some (.pointer (some ⟨g, off + i * sz + d, none⟩)))
    (hy : opv L y = some v) (hc : v.cells = vs.toArray) (hl : vs.length = tz) (h1 : vs.all Value.oneCell' = true) (hi' : i < n) (hd : d + tz ≤ sz) (hx' : splice (enc (xs.getD i dx)) d vs = enc x') (hlen : (enc (xs.getD i dx)).length = sz)
    (hQ : ∀ w', OwnL w' lo hi E sz (RF enc) A n c (xs.set i x') → Only g w w' → Q undef w') : Yl P o L w Q := by
  obtain ⟨e1, -⟩ := id hown
  obtain ⟨e2, S, cells, hown, he, h3, h4⟩ := hown.full hi'
  subst hA
  obtain ⟨f1, f2, hf⟩ := hown.form
  have hg0 : off = 0 := by
    rcases hf with ⟨hA, _⟩ | ⟨g', hA, _⟩
    · cases hA
    · simp only [Option.some.injEq, Addr.mk.injEq] at hA; exact hA.2.1
  subst hg0
  have hil : i < xs.length := by omega
  have hcl := he.length
  have hmul : i * sz + sz ≤ xs.length * sz := by
    have := Nat.mul_le_mul_right sz hil; rw [Nat.succ_mul] at this; omega
  refine yl_storeOwn hT ho (off := 0 + i * sz + d) hx hy hc hl h1 hown (by rw [hcl]; omega) fun w' hown' hO => hQ w' ⟨by rw [List.length_set]; exact e1, .inr ⟨e2, S, _, hown', ?_, h3, h4⟩⟩ hO
  have hget : xs.getD i dx = xs[i] := by simp [List.getD, List.getElem?_eq_getElem hil]
  obtain ⟨hal, hR⟩ := he.at hil
  have hR : (cells.drop (i * sz)).take sz = enc xs[i] := hR
  rw [hget] at hx' hlen
  have e : splice cells (0 + i * sz + d) vs = splice cells (i * sz) (enc x') := by
    rw [← hx', ← hR]
    simp only [splice, Nat.zero_add]
    have hcs : cells.length = xs.length * sz := hcl
    have l1 : ((cells.drop (i * sz)).take sz).length = sz := hal
    rw [List.length_append, List.length_append, List.length_take, List.length_drop, l1]
    rw [List.take_take, Nat.min_eq_left (by omega : d ≤ sz)]
    rw [List.drop_take, List.drop_drop]
    have e1 : i * sz + (d + vs.length + (sz - (d + vs.length))) = i * sz + sz := by omega
    have e2 : cells.drop (i * sz + d + vs.length) = (cells.drop (i * sz + (d + vs.length))).take (sz - (d + vs.length)) ++ cells.drop (i * sz + sz) := by
      have : i * sz + sz = i * sz + (d + vs.length) + (sz - (d + vs.length)) := by omega
      rw [this, ← List.drop_drop (i := sz - (d + vs.length)), List.take_append_drop, Nat.add_assoc]
    rw [e1, List.take_add, e2]
    simp only [List.append_assoc]
  rw [e]
  exact (he.mono fun c x (hx : c = enc x) => hx).set hil (by rw [← hx', splice_length (by rw [hlen, hl]; exact hd), hlen]) rfl
theorem yl_storeW {x y : Operand} {T E lo hi sz by_ off n c g i : Nat} {z : Option Value} {ag : Bool} {v : Value} {vs : List Value} {xs : List α} {x' : α} {A : Option Addr} {S' : Nat → Prop} (hg : Gd R) (hT : tyB P T = some (sz, by_, z, ag)) (ho : o.op = .store T x y)
    (hown : OwnL w lo hi E sz R A n c xs) (hA : A = some ⟨g, off, none⟩) (hx : opv L x = some (.pointer (some ⟨g, off + i * sz, none⟩)))
    (hy : opv L y = some v) (hc : v.cells = vs.toArray) (hl : vs.length = sz) (hi' : i < n) (hR' : R w S' vs x') (hS' : ∀ b, S' b → b < w.heap.size → lo ≤ b ∧ b ≠ g) (hhi : hi ≤ w.heap.size)
    (hQ : ∀ w', OwnL w' lo w'.heap.size E sz R A n c (xs.set i x') → Only g w w' → Q undef w') : Yl P o L w Q := by
  obtain ⟨e1, -⟩ := id hown
  obtain ⟨e2, S, cells, hown, he, h3, h4⟩ := hown.full hi'
  subst hA
  obtain ⟨f1, f2, hf⟩ := hown.form
  have hg0 : off = 0 := by
    rcases hf with ⟨hA, _⟩ | ⟨g', hA, _⟩
    · cases hA
    · simp only [Option.some.injEq, Addr.mk.injEq] at hA; exact hA.2.1
  subst hg0
  have hil : i < xs.length := by omega
  have hcl := he.length
  have hmul : i * sz + sz ≤ xs.length * sz := by
    have := Nat.mul_le_mul_right sz hil; rw [Nat.succ_mul] at this; omega
  have hgA : lo ≤ g ∧ g < hi := e2 g rfl
  refine yl_storeOwn hT ho (off := 0 + i * sz) hx hy hc hl (hg.one hR') hown (by rw [hcl]; omega) fun w' hown' hO => hQ w' ⟨by rw [List.length_set]; exact e1, .inr ⟨fun k hk => ?_, fun b => (S b ∨ S' b) ∧ b < w.heap.size ∧ lo ≤ b ∧ b ≠ g, _, hown', ?_, ?_, ?_⟩⟩ hO
  · have := e2 k hk; rw [hO.size]; omega
  · have hne : ∀ b, S b → b ≠ g := fun b hb hh => h3 g rfl (hh ▸ hb)
    rw [Nat.zero_add]
    refine (he.mono fun c x hx => ?_).set hil hl ?_
    · exact hg.keep (hg.wide hx fun b hb hlt => ⟨.inl hb, hlt, (h4 b hb).1, hne b hb⟩) fun b hb _ => hO.block b hb.2.2.2
    · exact hg.keep (hg.wide hR' fun b hb hlt => ⟨.inr hb, hlt, hS' b hb hlt⟩) fun b hb _ => hO.block b hb.2.2.2
  · intro k hk
    simp only [blk, Option.some.injEq] at hk
    subst hk
    exact fun hb => hb.2.2.2 rfl
  · intro b hb
    rw [hO.size]
    exact ⟨hb.2.2.1, hb.2.1⟩
end
end Go.X
