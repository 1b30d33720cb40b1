/- Loops that run while a test holds; calls at lengths that are spelled otherwise; bytes and strings; shifts. -/
import Derived.Test.YtdhfokkkpcelpaaGreatDoorE11
import Derived.Laws.BytesArg
import Derived.Laws.IdiomStrings
set_option linter.unusedVariables false
set_option linter.unusedSimpArgs false
namespace Go.X
open Go.RowKit
theorem Cal.args {P : Program} {f : FuncId} {a b : Array Value} {w : World} {R : Value → World → Prop} (h : a = b) (hc : Cal P f a w R) : Cal P f b w R := h ▸ hc
theorem okS.lit {s : Str} (h : Nat.ble s.length 1073741824 = true) : okS s := Nat.le_of_ble_eq_true h
theorem okE.set {α : Type} {ok : α → Prop} {xs : List α} {i : Nat} {v : α} (h : ∀ y ∈ xs, ok y) (hv : ok v) : ∀ y ∈ xs.set i v, ok y := fun y hy => by
  rcases List.mem_or_eq_of_mem_set hy with hy | hy
  · exact h y hy
  · exact hy ▸ hv
def loopW {ρ σ : Type} (body : σ → Out ρ σ) : Nat → σ → End ρ σ
  | 0, s => .done s
  | f + 1, s => match body s with
    | .ret r => .ret r
    | .brk s => .done s
    | .cont s => loopW body f s
section
variable {ρ σ : Type} {body : σ → Out ρ σ} {m n : Nat} {s s' : σ} {r : ρ}
theorem loopW.cont (h : n < m) (hb : body s = .cont s') : loopW body m s = loopW body (m - 1) s' := by
  obtain ⟨f, hf⟩ : ∃ f, m = f + 1 := ⟨m - 1, by omega⟩
  subst hf
  simp only [loopW, hb, Nat.add_sub_cancel]
theorem loopW.ret (h : n < m) (hb : body s = .ret r) : loopW body m s = .ret r := by
  obtain ⟨f, hf⟩ : ∃ f, m = f + 1 := ⟨m - 1, by omega⟩
  subst hf
  simp only [loopW, hb]
theorem loopW.brk (h : n < m) (hb : body s = .brk s') : loopW body m s = .done s' := by
  obtain ⟨f, hf⟩ : ∃ f, m = f + 1 := ⟨m - 1, by omega⟩
  subst hf
  simp only [loopW, hb]
end
def Out.sat {ρ σ : Type} (c b : σ → Prop) (r : ρ → Prop) : Out ρ σ → Prop
  | .ret x => r x
  | .brk s => b s
  | .cont s => c s
theorem loopW_val {ρ σ T : Type} {body : σ → Out ρ σ} {fr : ρ → T} {fd : σ → T} (I : σ → Prop) (μ : σ → Nat) (V : T → Prop) (hb : ∀ s, I s → (body s).sat (fun s' => I s' ∧ μ s' < μ s) (fun s' => V (fd s')) (fun r => V (fr r))) : ∀ (n : Nat) (s : σ), I s → μ s < n → V (loopE (loopW body n s) fr fd)
  | 0, s, _, h => by omega
  | n + 1, s, hi, hn => by
    have h := hb s hi
    cases hbs : body s with
    | ret r => rw [hbs] at h; simp only [loopW, hbs]; exact h
    | brk s' => rw [hbs] at h; simp only [loopW, hbs]; exact h
    | cont s' => rw [hbs] at h; simp only [loopW, hbs]; exact loopW_val I μ V hb n s' h.1 (by have := h.2; omega)
section
variable {P : Program} {o : Oper} {L : List (Nat × Value)} {w : World} {R : Value → World → Prop}
theorem yl_shr {x y : Operand} {t t' : TypeId} {k yk : IntKind} {a b q : Int} (ho : o.op = .binOp .shr t x y t') (hx : opv L x = some (.int k a)) (hy : opv L y = some (.int yk b)) (h0 : 0 ≤ b) (hb : b ≤ k.bits) (hq : (2 : Int) ^ b.toNat = q) (hR : R (.int k (a.fdiv q)) w) : Yl P o L w R :=
  Yl.val (fun ρ hρ => by
    have h1 : min b.toNat k.bits = b.toNat := Nat.min_eq_left (by omega)
    have h2 : ¬ b < 0 := by omega
    simp [execOp, ho, hρ x _ hx, hρ y _ hy, guard_int, binOp, Op.shift, h1, h2, hq]) hR
def e_U8 (n : Int) : List Value := [.int .u8 n]
theorem good_U8 : Gd (RF e_U8) := RF.good fun _ => rfl
def toS (xs : List Int) : Str := xs.map fun n => UInt8.ofNat n.toNat
theorem toS_length (xs : List Int) : (toS xs).length = xs.length := List.length_map ..
theorem okS_toS {xs : List Int} (h : xs.length ≤ 1073741824) : okS (toS xs) := by unfold okS; rw [toS_length]; exact h
theorem EncL.u8 {w : World} {S : Nat → Prop} {cs : List Value} {xs : List Int} (h : EncL (RF e_U8 w S) 1 cs xs) : cs = xs.map (Value.int .u8) := by
  induction h with
  | nil => rfl
  | @cons c x cs xs hl hx hs ih => rw [hx, ih]; rfl
theorem yl_toS {x : Operand} {src dst e : TypeId} {S : Nat → Prop} {A : Option Addr} {n c : Nat} {xs : List Int} (hs : P.underlying src = some (.slice e)) (he : P.underlying e = some (.int .u8)) (hd : P.underlying dst = some .string)
    (ho : o.op = .convert src dst x) (hx : opv L x = some (.slice A n c)) (h : RdS w S (RF e_U8) 1 A n c xs) (hR : R (.string (bs (toS xs))) w) : Yl P o L w R :=
  Yl.val (fun ρ hρ => by
    simp only [execOp, ho, hρ x _ hx]
    obtain ⟨h1, h2, h3, cells, he', h4⟩ := h
    have hc := he'.u8
    rcases h4 with h4 | ⟨b, off, hA, hSb, hb, hcell⟩
    · subst h4
      have hn : n = 0 := h1
      subst hn
      rcases A with _ | a
      · have e1 : (convert src dst (.slice none 0 c)).run P w = .ok (.string (bs (toS []))) w := by
          rw [run_convert_bytes_string w src dst e none 0 c hs he hd]
          simp [Conv.bytesToString]
          rfl
        simp only [Sem.run_bind, e1, Result.andThen_ok, Sem.run_pure]
      · have e1 := run_convert_bytes_back (P := P) w src dst e a c [] hs he hd (fun j hj => by cases hj)
        have e2 : (convert src dst (.slice (some a) 0 c)).run P w = .ok (.string (bs (toS []))) w := e1
        simp only [Sem.run_bind, e2, Result.andThen_ok, Sem.run_pure]
    · subst hA
      have e1 := run_convert_bytes_arg (P := P) w src e hs he b off n c xs h1.symm (fun i hi => by
        rw [hcell i (.int .u8 (xs.getD i 0)) (by
          rw [hc, List.getElem?_map]
          have : i < xs.length := by omega
          simp [List.getElem?_eq_getElem this])]) dst hd
      have e2 : (convert src dst (.slice (some ⟨b, off, none⟩) n c)).run P w = .ok (.string (bs (toS xs))) w := e1
      simp only [Sem.run_bind, e2, Result.andThen_ok, Sem.run_pure]) hR
end
end Go.X
