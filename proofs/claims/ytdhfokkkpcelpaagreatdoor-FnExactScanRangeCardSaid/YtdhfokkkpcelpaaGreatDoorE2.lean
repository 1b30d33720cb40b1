/- Operations, one lemma each; what memory holds. -/
import Derived.Test.YtdhfokkkpcelpaaGreatDoorE1
import Derived.Laws.CopyRow
import Derived.Laws.Tables
import Derived.Laws.NewBlocks
import Derived.Laws.MakeOwn
import Derived.Laws.IdiomCopy
import Derived.IntWalk
import Derived.Laws.Closers25
set_option linter.unusedVariables false
set_option linter.unusedSimpArgs false
namespace Go.X
open Go.RowKit
/-! ### Worlds -/
def Ex (w w' : World) : Prop := Below w.heap.size w w'
theorem Ex.refl (w : World) : Ex w w := Below.refl _ _
theorem Ex.size {w w' : World} (h : Ex w w') : w.heap.size ≤ w'.heap.size := Below.size h
theorem Ex.trans {a b c : World} (h : Ex a b) (k : Ex b c) : Ex a c := Below.trans h (Below.mono k (Below.size h))
theorem Ex.drew (w : World) : Ex w w.drew := Below.drew (Below.refl _ _)
theorem Below.ex {B : Nat} {a b c : World} (h : Below B a b) (k : Ex b c) (hB : B ≤ b.heap.size) : Below B a c := h.trans (Below.mono k hB)
structure Only (b : Nat) (w w' : World) : Prop where
  os : w'.os = w.os
  tape : w'.tape = w.tape
  output : w'.output = w.output
  size : w'.heap.size = w.heap.size
  block : ∀ k, k ≠ b → w'.heap[k]? = w.heap[k]?
theorem Below.only {B b : Nat} {a w w' : World} (h : Below B a w) (k : Only b w w') (hb : B ≤ b) : Below B a w' :=
  ⟨k.os.trans h.os, k.tape.trans h.tape, k.output.trans h.output, by rw [k.size]; exact h.size, fun i hi => (k.block i (by omega)).trans (h.block i hi)⟩
def Box (w : World) (b : Nat) (T : TypeId) (cs : List Value) : Prop := w.heap[b]? = some (.cells cs.toArray T (0, 0))
theorem Box.lt {w : World} {b : Nat} {T : TypeId} {cs : List Value} (h : Box w b T cs) : b < w.heap.size := by
  rcases Nat.lt_or_ge b w.heap.size with hlt | hge
  · exact hlt
  · unfold Box at h; rw [Array.getElem?_eq_none hge] at h; cases h
theorem Box.ex {w w' : World} {b : Nat} {T : TypeId} {cs : List Value} (h : Box w b T cs) (e : Ex w w') : Box w' b T cs := (Below.block e b h.lt).trans h
theorem Box.only {w w' : World} {b b' : Nat} {T : TypeId} {cs : List Value} (h : Box w b T cs) (e : Only b' w w') (hn : b ≠ b') : Box w' b T cs := (e.block b hn).trans h
theorem Box.cell {w : World} {b : Nat} {T : TypeId} {cs : List Value} (h : Box w b T cs) (i : Nat) : w.cell? ⟨b, i, none⟩ = cs[i]? := by
  unfold Box at h
  simp [World.cell?, h]
theorem Box.frozen {w : World} {b : Nat} {T : TypeId} {cs : List Value} (h : Box w b T cs) (i : Nat) : w.frozen? ⟨b, i, none⟩ = false := by
  unfold Box at h
  simp [World.frozen?, h]
def Cells (w : World) (b o : Nat) (cs : List Value) : Prop := ∀ j u, cs[j]? = some u → w.cell? ⟨b, o + j, none⟩ = some u
theorem Box.cells {w : World} {b : Nat} {T : TypeId} {cs : List Value} (h : Box w b T cs) {o n : Nat} {sub : List Value} (hs : (cs.drop o).take n = sub) : Cells w b o sub := by
  intro j u hu
  subst hs
  rw [h.cell]
  rw [List.getElem?_take] at hu
  split at hu
  · rwa [List.getElem?_drop] at hu
  · cases hu
theorem Cells.block_lt {w : World} {b o : Nat} {cs : List Value} (h : Cells w b o cs) (hl : 0 < cs.length) : b < w.heap.size := by
  have := h 0 _ (List.getElem?_eq_getElem hl)
  rcases Nat.lt_or_ge b w.heap.size with hlt | hge
  · exact hlt
  · simp [World.cell?, Array.getElem?_eq_none hge] at this
theorem Cells.keep {w w' : World} {b o : Nat} {cs : List Value} (h : Cells w b o cs) (hk : w'.heap[b]? = w.heap[b]?) : Cells w' b o cs := by
  intro j u hu
  have := h j u hu
  simpa [World.cell?, hk] using this
theorem Cells.ex {w w' : World} {b o : Nat} {cs : List Value} (h : Cells w b o cs) (e : Ex w w') : Cells w' b o cs := by
  rcases Nat.eq_zero_or_pos cs.length with h0 | h0
  · intro j u hu; rw [List.eq_nil_of_length_eq_zero h0] at hu; simp at hu
  · exact h.keep (Below.block e b (h.block_lt h0))
theorem Cells.only {w w' : World} {b b' o : Nat} {cs : List Value} (h : Cells w b o cs) (e : Only b' w w') (hn : b ≠ b') : Cells w' b o cs := h.keep (e.block b hn)
theorem add_none (b o k : Nat) : (⟨b, o, none⟩ : Addr).add k = ⟨b, o + k, none⟩ := by
  unfold Addr.add; split <;> simp_all
/-! ### Types -/
def aggD : TypeDesc → Bool
  | .struct _ | .array _ _ => true
  | _ => false
def tyB (P : Program) (T : TypeId) : Option (Nat × Nat × Option Value × Bool) :=
  match P.info? T, P.underlying T with
  | some i, some d => some (i.size, i.bytes, i.zero, aggD d)
  | _, _ => none
theorem tyB.spec {P : Program} {T : TypeId} {sz bytes : Nat} {z : Option Value} {ag : Bool} (h : tyB P T = some (sz, bytes, z, ag)) :
    ∃ i d, P.info? T = some i ∧ P.underlying T = some d ∧ i.size = sz ∧ i.bytes = bytes ∧ i.zero = z ∧ aggD d = ag := by
  unfold tyB at h
  cases hi : P.info? T with
  | none => simp [hi] at h
  | some i =>
    cases hd : P.underlying T with
    | none => simp [hi, hd] at h
    | some d =>
      simp only [hi, hd, Option.some.injEq, Prod.mk.injEq] at h
      exact ⟨i, d, rfl, rfl, h.1, h.2.1, h.2.2.1, h.2.2.2⟩
def fieldB (P : Program) (T : TypeId) (k : Nat) : Option (Nat × Nat × Bool) :=
  match P.underlying T with
  | some (.struct fs) => match fs[k]? with
    | some f => match tyB P f.type with
      | some (sz, _, _, ag) => some (f.offset, sz, ag)
      | none => none
    | none => none
  | _ => none
section
variable {P : Program} {o : Oper} {L : List (Nat × Value)} {w : World} {R : Value → World → Prop}
theorem Yl.val {v : Value} (h : ∀ ρ, Agr L ρ → (execOp ρ o).run P w = .ok (.value v) w) (hR : R v w) : Yl P o L w R := fun ρ hρ => by
  unfold YlR; rw [h ρ hρ]; exact hR
theorem yl_move {x : Operand} {v : Value} (ho : o.op = .move x) (hx : opv L x = some v) (hR : R v w) : Yl P o L w R :=
  .val (v := v) (fun ρ hρ => by simp [execOp, ho, hρ x v hx]) hR
theorem yl_assign {x : Operand} {v : Value} (ho : o.op = .assign x) (hx : opv L x = some v) (hR : R v w) : Yl P o L w R :=
  .val (v := v) (fun ρ hρ => by simp [execOp, ho, hρ x v hx]) hR
theorem yl_pick_t {c x y : Operand} {g : Bool} {v : Value} (ho : o.op = .pick c x y) (hc : opv L c = some (.bool g)) (hg : g = true) (hx : opv L x = some v) (hR : R v w) : Yl P o L w R :=
  .val (v := v) (fun ρ hρ => by simp [execOp, ho, hρ x v hx, hρ c _ hc, asBool, hg]) hR
theorem yl_pick_f {c x y : Operand} {g : Bool} {v : Value} (ho : o.op = .pick c x y) (hc : opv L c = some (.bool g)) (hg : g = false) (hx : opv L y = some v) (hR : R v w) : Yl P o L w R :=
  .val (v := v) (fun ρ hρ => by simp [execOp, ho, hρ y v hx, hρ c _ hc, asBool, hg]) hR
theorem yl_extract {x : Operand} {i : Nat} {vs : Array Value} {v : Value} (ho : o.op = .extract x i) (hx : opv L x = some (.tuple vs)) (hv : vs[i]? = some v) (hR : R v w) : Yl P o L w R :=
  .val (v := v) (fun ρ hρ => by simp [execOp, ho, hρ x _ hx, Instr.extract, hv]) hR
theorem yl_not {x : Operand} {t : TypeId} {g : Bool} (ho : o.op = .unOp .not t x) (hx : opv L x = some (.bool g)) (hR : R (.bool !g) w) : Yl P o L w R :=
  .val (v := .bool !g) (fun ρ hρ => by simp [execOp, ho, hρ x _ hx, Op.unary]) hR
def plainV : Value → Bool
  | .agg _ | .nilIface => false
  | _ => true
theorem guard_plain (op : BinOp) (t : TypeId) (x y : Operand) (u v : Value) (hu : plainV u = true) (w : World) : (eqGuard op t x y u v).run P w = .ok () w := by
  unfold eqGuard
  cases op <;> cases u <;> first | rfl | (simp [plainV] at hu)
theorem guard_int (op : BinOp) (t : TypeId) (x y : Operand) (k : IntKind) (a : Int) (v : Value) (w : World) : (eqGuard op t x y (.int k a) v).run P w = .ok () w := guard_plain op t x y _ v rfl w
theorem guard_bool (op : BinOp) (t : TypeId) (x y : Operand) (a : Bool) (v : Value) (w : World) : (eqGuard op t x y (.bool a) v).run P w = .ok () w := guard_plain op t x y _ v rfl w
theorem guard_string (op : BinOp) (t : TypeId) (x y : Operand) (a : ByteArray) (v : Value) (w : World) : (eqGuard op t x y (.string a) v).run P w = .ok () w := guard_plain op t x y _ v rfl w
section ints
variable {x y : Operand} {t t' : TypeId} {k : IntKind} {a b : Int}
theorem yl_add (ho : o.op = .binOp .add t x y t') (hx : opv L x = some (.int k a)) (hy : opv L y = some (.int k b)) (hR : R (.int k (k.wrap (a + b))) w) : Yl P o L w R :=
  .val (fun ρ hρ => by simp [execOp, ho, hρ x _ hx, hρ y _ hy, guard_int, binOp, Op.intArith]) hR
theorem yl_sub (ho : o.op = .binOp .sub t x y t') (hx : opv L x = some (.int k a)) (hy : opv L y = some (.int k b)) (hR : R (.int k (k.wrap (a - b))) w) : Yl P o L w R :=
  .val (fun ρ hρ => by simp [execOp, ho, hρ x _ hx, hρ y _ hy, guard_int, binOp, Op.intArith]) hR
theorem yl_mul (ho : o.op = .binOp .mul t x y t') (hx : opv L x = some (.int k a)) (hy : opv L y = some (.int k b)) (hR : R (.int k (k.wrap (a * b))) w) : Yl P o L w R :=
  .val (fun ρ hρ => by simp [execOp, ho, hρ x _ hx, hρ y _ hy, guard_int, binOp, Op.intArith]) hR
theorem yl_quo (ho : o.op = .binOp .quo t x y t') (hx : opv L x = some (.int k a)) (hy : opv L y = some (.int k b)) (h0 : b ≠ 0) (hR : R (.int k (k.wrap (a.tdiv b))) w) : Yl P o L w R :=
  .val (fun ρ hρ => by simp [execOp, ho, hρ x _ hx, hρ y _ hy, guard_int, binOp, Op.intDiv, h0]) hR
theorem yl_rem (ho : o.op = .binOp .rem t x y t') (hx : opv L x = some (.int k a)) (hy : opv L y = some (.int k b)) (h0 : b ≠ 0) (hR : R (.int k (a.tmod b)) w) : Yl P o L w R :=
  .val (fun ρ hρ => by simp [execOp, ho, hρ x _ hx, hρ y _ hy, guard_int, binOp, Op.intDiv, h0]) hR
theorem yl_eql (ho : o.op = .binOp .eql t x y t') (hx : opv L x = some (.int k a)) (hy : opv L y = some (.int k b)) (hR : R (.bool (decide (a = b))) w) : Yl P o L w R :=
  .val (fun ρ hρ => by simp [execOp, ho, hρ x _ hx, hρ y _ hy, guard_int, binOp, Op.intCmp]; rfl) hR
theorem yl_neq (ho : o.op = .binOp .neq t x y t') (hx : opv L x = some (.int k a)) (hy : opv L y = some (.int k b)) (hR : R (.bool !(decide (a = b))) w) : Yl P o L w R :=
  .val (fun ρ hρ => by simp [execOp, ho, hρ x _ hx, hρ y _ hy, guard_int, binOp, Op.intCmp, bne]; rfl) hR
theorem yl_lss (ho : o.op = .binOp .lss t x y t') (hx : opv L x = some (.int k a)) (hy : opv L y = some (.int k b)) (hR : R (.bool (decide (a < b))) w) : Yl P o L w R :=
  .val (fun ρ hρ => by simp [execOp, ho, hρ x _ hx, hρ y _ hy, guard_int, binOp, Op.intCmp]) hR
theorem yl_leq (ho : o.op = .binOp .leq t x y t') (hx : opv L x = some (.int k a)) (hy : opv L y = some (.int k b)) (hR : R (.bool (decide (a ≤ b))) w) : Yl P o L w R :=
  .val (fun ρ hρ => by simp [execOp, ho, hρ x _ hx, hρ y _ hy, guard_int, binOp, Op.intCmp]) hR
theorem yl_gtr (ho : o.op = .binOp .gtr t x y t') (hx : opv L x = some (.int k a)) (hy : opv L y = some (.int k b)) (hR : R (.bool (decide (b < a))) w) : Yl P o L w R :=
  .val (fun ρ hρ => by simp [execOp, ho, hρ x _ hx, hρ y _ hy, guard_int, binOp, Op.intCmp]) hR
theorem yl_geq (ho : o.op = .binOp .geq t x y t') (hx : opv L x = some (.int k a)) (hy : opv L y = some (.int k b)) (hR : R (.bool (decide (b ≤ a))) w) : Yl P o L w R :=
  .val (fun ρ hρ => by simp [execOp, ho, hρ x _ hx, hρ y _ hy, guard_int, binOp, Op.intCmp]) hR
end ints
/-! ### Bools -/
theorem run_equalIn_bool {t : TypeId} (hu : P.underlying t = some .bool) (a b : Bool) (d : Nat) (w : World) : (Op.equalIn (d + 1) t (.bool a) (.bool b)).run P w = .ok (a == b) w := by
  simp [Op.equalIn, run_underlying hu]
theorem yl_bneq {x y : Operand} {t t' : TypeId} {a b : Bool} (hu : P.underlying t = some .bool) (ho : o.op = .binOp .neq t x y t') (hx : opv L x = some (.bool a)) (hy : opv L y = some (.bool b)) (hR : R (.bool !(a == b)) w) : Yl P o L w R :=
  .val (fun ρ hρ => by
    have e : binOp .neq t (.bool a) (.bool b) = (do pure (.bool !(← Op.equalIn (9999 + 1) t (.bool a) (.bool b)))) := rfl
    simp only [execOp, ho, hρ x _ hx, hρ y _ hy, Sem.run_bind, guard_bool, Result.andThen_ok, e, run_equalIn_bool hu, Sem.run_pure]) hR
/-! ### Strings: lists of bytes -/
abbrev Str := List UInt8
def bs (l : Str) : ByteArray := ⟨l.toArray⟩
theorem bs_size (l : Str) : (bs l).size = l.length := rfl
theorem bs_toList (l : Str) : (bs l).toList = l := by rw [ByteArray.toList_eq]; rfl
theorem bs_append (l m : Str) : bs l ++ bs m = bs (l ++ m) := by
  apply ByteArray.ext
  simp [bs, ByteArray.data_append]
def sLt : Str → Str → Bool := Op.bytesLess
def sLe (a b : Str) : Bool := sLt a b || a == b
section strs
variable {x y : Operand} {t t' : TypeId} {a b : Str}
theorem yl_sadd (ho : o.op = .binOp .add t x y t') (hx : opv L x = some (.string (bs a))) (hy : opv L y = some (.string (bs b))) (hl : a.length + b.length ≤ 9223372036854775807) (hR : R (.string (bs (a ++ b))) w) : Yl P o L w R :=
  .val (fun ρ hρ => by
    have h : ¬ ((((bs a).size + (bs b).size : Nat) : Int) > IntKind.i64.max) := by rw [bs_size, bs_size]; have : IntKind.i64.max = 9223372036854775807 := rfl; omega
    simp only [execOp, ho, hρ x _ hx, hρ y _ hy, Sem.run_bind, guard_string, Result.andThen_ok, binOp, Op.stringOp, if_neg h, bs_append, Sem.run_pure]) hR
theorem yl_seql (ho : o.op = .binOp .eql t x y t') (hx : opv L x = some (.string (bs a))) (hy : opv L y = some (.string (bs b))) (hR : R (.bool (a == b)) w) : Yl P o L w R :=
  .val (fun ρ hρ => by simp only [execOp, ho, hρ x _ hx, hρ y _ hy, Sem.run_bind, guard_string, Result.andThen_ok, binOp, Op.stringOp, bs_toList, Sem.run_pure]) hR
theorem yl_sneq (ho : o.op = .binOp .neq t x y t') (hx : opv L x = some (.string (bs a))) (hy : opv L y = some (.string (bs b))) (hR : R (.bool !(a == b)) w) : Yl P o L w R :=
  .val (fun ρ hρ => by simp only [execOp, ho, hρ x _ hx, hρ y _ hy, Sem.run_bind, guard_string, Result.andThen_ok, binOp, Op.stringOp, bs_toList, Sem.run_pure]) hR
theorem yl_slss (ho : o.op = .binOp .lss t x y t') (hx : opv L x = some (.string (bs a))) (hy : opv L y = some (.string (bs b))) (hR : R (.bool (sLt a b)) w) : Yl P o L w R :=
  .val (fun ρ hρ => by simp only [execOp, ho, hρ x _ hx, hρ y _ hy, Sem.run_bind, guard_string, Result.andThen_ok, binOp, Op.stringOp, bs_toList, Sem.run_pure, sLt]) hR
theorem yl_sleq (ho : o.op = .binOp .leq t x y t') (hx : opv L x = some (.string (bs a))) (hy : opv L y = some (.string (bs b))) (hR : R (.bool (sLe a b)) w) : Yl P o L w R :=
  .val (fun ρ hρ => by simp only [execOp, ho, hρ x _ hx, hρ y _ hy, Sem.run_bind, guard_string, Result.andThen_ok, binOp, Op.stringOp, bs_toList, Sem.run_pure, sLt, sLe]) hR
theorem yl_sgtr (ho : o.op = .binOp .gtr t x y t') (hx : opv L x = some (.string (bs a))) (hy : opv L y = some (.string (bs b))) (hR : R (.bool !(sLe a b)) w) : Yl P o L w R :=
  .val (fun ρ hρ => by simp only [execOp, ho, hρ x _ hx, hρ y _ hy, Sem.run_bind, guard_string, Result.andThen_ok, binOp, Op.stringOp, bs_toList, Sem.run_pure, sLt, sLe]) hR
theorem yl_sgeq (ho : o.op = .binOp .geq t x y t') (hx : opv L x = some (.string (bs a))) (hy : opv L y = some (.string (bs b))) (hR : R (.bool !(sLt a b)) w) : Yl P o L w R :=
  .val (fun ρ hρ => by simp only [execOp, ho, hρ x _ hx, hρ y _ hy, Sem.run_bind, guard_string, Result.andThen_ok, binOp, Op.stringOp, bs_toList, Sem.run_pure, sLt]) hR
theorem yl_sindex (hu : P.underlying t = some .string) {i : Int} {k : IntKind} (ho : o.op = .index t x y) (hx : opv L x = some (.string (bs a))) (hy : opv L y = some (.int k i)) (h0 : 0 ≤ i) (h1 : i < a.length)
    (hR : R (.int .u8 (a.getD i.toNat 0).toNat) w) : Yl P o L w R :=
  .val (fun ρ hρ => by
    have hi : i.toNat < a.length := by omega
    have hg : (bs a)[i.toNat]? = some (a.getD i.toNat 0) := by
      show (⟨a.toArray⟩ : ByteArray)[i.toNat]? = _
      rw [getElem?_pos _ _ (by simpa [ByteArray.size] using hi)]
      simp [List.getD, List.getElem?_eq_getElem hi, ByteArray.getElem_eq_getElem_data]
    simp [execOp, ho, hρ x _ hx, hρ y _ hy, Instr.index, asIntOf, run_underlying hu, h0, hg]) hR
theorem yl_sslice (hu : P.underlying t = some .string) {lo hi : Option Operand} {l h : Nat} {kl kh : IntKind} (ho : o.op = .slice t x lo hi none) (hx : opv L x = some (.string (bs a)))
    (hlo : match lo with | some z => opv L z = some (.int kl (l : Int)) | none => l = 0) (hhi : match hi with | some z => opv L z = some (.int kh (h : Int)) | none => h = a.length) (hlh : l ≤ h) (hha : h ≤ a.length)
    (hR : R (.string (bs ((a.take h).drop l))) w) : Yl P o L w R :=
  .val (fun ρ hρ => by
    have he : (bs a).extract l h = bs ((a.take h).drop l) := by
      apply ByteArray.ext
      simp [bs, ByteArray.data_extract, List.drop_take]
    have h1 : (0 : Int) ≤ l := by omega
    have h2 : (0 : Int) ≤ h := by omega
    have h3 : (l : Int) ≤ h := by omega
    have h4 : (h : Int) ≤ a.length := by omega
    rcases lo with _ | z <;> rcases hi with _ | z' <;> simp only at hlo hhi
    · subst hlo; subst hhi
      simp [execOp, ho, hρ x _ hx, Instr.sliceAt, Instr.slice, run_underlying hu, Instr.sliceBounds, bs_size, he]
    · subst hlo
      simp [execOp, ho, hρ x _ hx, hρ z' _ hhi, Instr.sliceAt, Instr.slice, run_underlying hu, Instr.sliceBounds, Instr.sliceBound, asIntOf, bs_size, he, hha]
    · subst hhi
      simp [execOp, ho, hρ x _ hx, hρ z _ hlo, Instr.sliceAt, Instr.slice, run_underlying hu, Instr.sliceBounds, Instr.sliceBound, asIntOf, bs_size, he, hlh]
    · simp [execOp, ho, hρ x _ hx, hρ z _ hlo, hρ z' _ hhi, Instr.sliceAt, Instr.slice, run_underlying hu, Instr.sliceBounds, Instr.sliceBound, asIntOf, bs_size, he, hlh, hha]) hR
theorem yl_slen (hu : P.underlying t = some .string) (ho : o.op = .call { callee := .builtin .len, args := #[x], argTypes := #[t] }) (hx : opv L x = some (.string (bs a))) (hR : R (.int .i64 (a.length : Int)) w) : Yl P o L w R :=
  .val (fun ρ hρ => by simp [execOp, ho, hρ x _ hx, resolve, invoke, builtin, Builtin.len_, run_underlying hu, goInt, bs_size]) hR
end strs
/-! ### Slices -/
theorem yl_len {x : Operand} {t e : TypeId} {A : Option Addr} {n c : Nat} (hu : P.underlying t = some (.slice e)) (ho : o.op = .call { callee := .builtin .len, args := #[x], argTypes := #[t] }) (hx : opv L x = some (.slice A n c)) (hR : R (.int .i64 (n : Int)) w) : Yl P o L w R :=
  .val (fun ρ hρ => by simp [execOp, ho, hρ x _ hx, resolve, invoke, builtin, Builtin.len_, run_underlying hu, goInt]) hR
theorem yl_indexAddr {x y : Operand} {t e : TypeId} {A : Option Addr} {n c b off sz by_ : Nat} {z : Option Value} {ag : Bool} {i : Int} {k : IntKind} (hu : P.underlying t = some (.slice e)) (he : tyB P e = some (sz, by_, z, ag))
    (ho : o.op = .indexAddr t x y) (hx : opv L x = some (.slice A n c)) (hy : opv L y = some (.int k i)) (hA : A = some ⟨b, off, none⟩) (h0 : 0 ≤ i) (h1 : i < n) (hR : R (.pointer (some ⟨b, off + i.toNat * sz, none⟩)) w) : Yl P o L w R := by
  obtain ⟨ie, d, hi, _, hsz, _⟩ := tyB.spec he
  subst hA
  refine .val (fun ρ hρ => ?_) hR
  simp [execOp, ho, hρ x _ hx, hρ y _ hy, Instr.indexAt, asIntOf, run_underlying hu, h0, h1, sizeOf, typeInfo, hi, hsz, add_none]
theorem yl_fieldAddr {x : Operand} {t : TypeId} {k fo fz b off : Nat} {ag : Bool} (hf : fieldB P t k = some (fo, fz + 1, ag)) (ho : o.op = .fieldAddr t x k) (hx : opv L x = some (.pointer (some ⟨b, off, none⟩)))
    (hR : R (.pointer (some ⟨b, off + fo, none⟩)) w) : Yl P o L w R := by
  unfold fieldB at hf
  split at hf
  · rename_i fs hu
    split at hf
    · rename_i f hfk
      split at hf
      · rename_i sz by_ z ag' hty
        simp only [Option.some.injEq, Prod.mk.injEq] at hf
        obtain ⟨h1, h2, h3⟩ := hf
        obtain ⟨ie, d, hi, _, hsz, _⟩ := tyB.spec hty
        refine .val (fun ρ hρ => ?_) hR
        have hne : ie.size ≠ 0 := by omega
        simp [execOp, ho, hρ x _ hx, Instr.fieldAt, run_underlying hu, hfk, Instr.sureAddr, fieldPlace, sizeOf, typeInfo, hi, hne, add_none, h1]
      · cases hf
    · cases hf
  · cases hf
theorem run_isAgg {T : TypeId} {sz by_ : Nat} {z : Option Value} {ag : Bool} (h : tyB P T = some (sz, by_, z, ag)) (w : World) : (isAgg T).run P w = .ok ag w := by
  obtain ⟨i, d, hi, hd, _, _, _, ha⟩ := tyB.spec h
  unfold isAgg
  simp only [Sem.run_bind, run_underlying hd, Result.andThen_ok]
  subst ha
  cases d <;> rfl
theorem run_size {T : TypeId} {sz by_ : Nat} {z : Option Value} {ag : Bool} (h : tyB P T = some (sz, by_, z, ag)) (w : World) : (sizeOf T).run P w = .ok sz w := by
  obtain ⟨i, d, hi, hd, hs, _⟩ := tyB.spec h
  simp [sizeOf, typeInfo, hi, hs]
theorem run_load1 {T : TypeId} {sz by_ : Nat} {z : Option Value} (h : tyB P T = some (sz, by_, z, false)) {a : Addr} {v : Value} (hc : w.cell? a = some v) : (loadVar T a).run P w = .ok v w := by
  unfold loadVar
  simp only [Sem.run_bind, run_isAgg h, Result.andThen_ok]
  simp [load, Sem.run, hc]
theorem run_loadN {T : TypeId} {sz by_ : Nat} {z : Option Value} (h : tyB P T = some (sz, by_, z, true)) {b off : Nat} {cs : List Value} (hl : cs.length = sz) (hc : Cells w b off cs) : (loadVar T ⟨b, off, none⟩).run P w = .ok (.agg cs.toArray) w := by
  unfold loadVar
  simp only [Sem.run_bind, run_isAgg h, Result.andThen_ok, if_true, run_size h]
  rw [← hl]
  have := run_loadCells_list (P := P) w ⟨b, off, none⟩ cs (fun j v hv => by rw [add_none]; exact hc j v hv)
  simp [this]
theorem yl_load1 {x : Operand} {T : TypeId} {sz by_ : Nat} {z : Option Value} {a : Addr} {v : Value} (hT : tyB P T = some (sz, by_, z, false)) (ho : o.op = .load T x) (hx : opv L x = some (.pointer (some a))) (hc : w.cell? a = some v) (hR : R v w) : Yl P o L w R :=
  .val (fun ρ hρ => by
    simp only [execOp, ho, hρ x _ hx, Instr.loadAt, Instr.sureAddr, pure_bind, Sem.run_bind, run_load1 hT hc, Result.andThen_ok, Sem.run_pure]) hR
theorem yl_loadN {x : Operand} {T : TypeId} {sz by_ : Nat} {z : Option Value} {b off : Nat} {cs : List Value} (hT : tyB P T = some (sz, by_, z, true)) (ho : o.op = .load T x) (hx : opv L x = some (.pointer (some ⟨b, off, none⟩))) (hc : Cells w b off cs) (hl : cs.length = sz) (hR : R (.agg cs.toArray) w) : Yl P o L w R :=
  .val (fun ρ hρ => by
    simp only [execOp, ho, hρ x _ hx, Instr.loadAt, Instr.sureAddr, pure_bind, Sem.run_bind, run_loadN hT hl hc, Result.andThen_ok, Sem.run_pure]) hR
theorem alloc_facts (w : World) (cs : List Value) (T : TypeId) : (w.alloc (.cells cs.toArray T)).heap.size = w.heap.size + 1 ∧ Box (w.alloc (.cells cs.toArray T)) w.heap.size T cs ∧ Ex w (w.alloc (.cells cs.toArray T)) :=
  ⟨Array.size_push .., by show (w.heap.push _)[w.heap.size]? = _; simp, (Below.refl _ _).alloc (Nat.le_refl _) _⟩
theorem yl_box {x : Operand} {T : TypeId} {v : Value} {cs : List Value} (ho : o.op = .box T x) (hx : opv L x = some v) (hc : v.cells = cs.toArray)
    (hR : ∀ b w', w.heap.size = b → w'.heap.size = b + 1 → Box w' b T cs → Ex w w' → R (.pointer (some ⟨b, 0, none⟩)) w') : Yl P o L w R := fun ρ hρ => by
  obtain ⟨h1, h2, h3⟩ := alloc_facts w cs T
  have e : (execOp ρ o).run P w = .ok (.value (.pointer (some ⟨w.heap.size, 0, none⟩))) (w.alloc (.cells cs.toArray T)) := by
    simp [execOp, ho, hρ x _ hx, Instr.box, newVar, newRow, hc]
  unfold YlR
  rw [e]
  exact hR _ _ rfl h1 h2 h3
theorem run_zero {T : TypeId} {sz by_ : Nat} {z : Value} {ag : Bool} (h : tyB P T = some (sz, by_, some z, ag)) (w : World) : (zeroValue T).run P w = .ok z w := by
  obtain ⟨i, d, hi, hd, _, _, hz, _⟩ := tyB.spec h
  simp [zeroValue, typeInfo, hi, hz]
theorem yl_alloc {T : TypeId} {sz by_ : Nat} {z : Value} {ag : Bool} {cs : List Value} (hT : tyB P T = some (sz, by_, some z, ag)) (ho : o.op = .alloc T) (hc : z.cells = cs.toArray)
    (hR : ∀ b w', w.heap.size = b → w'.heap.size = b + 1 → Box w' b T cs → Ex w w' → R (.pointer (some ⟨b, 0, none⟩)) w') : Yl P o L w R := fun ρ hρ => by
  obtain ⟨h1, h2, h3⟩ := alloc_facts w cs T
  have e : (execOp ρ o).run P w = .ok (.value (.pointer (some ⟨w.heap.size, 0, none⟩))) (w.alloc (.cells cs.toArray T)) := by
    simp [execOp, ho, Instr.alloc, run_zero hT, newVar, newRow, hc]
  unfold YlR
  rw [e]
  exact hR _ _ rfl h1 h2 h3
def splice (cs : List Value) (off : Nat) (vs : List Value) : List Value := cs.take off ++ vs ++ cs.drop (off + vs.length)
theorem splice_length {cs vs : List Value} {off : Nat} (h : off + vs.length ≤ cs.length) : (splice cs off vs).length = cs.length := by
  simp [splice]; omega
theorem setRow_only (w : World) (b : Nat) (cs : Array Value) : Only b w (w.setRow b cs) :=
  ⟨rfl, rfl, rfl, by simp [World.setRow], fun k hk => by simp [World.setRow, Array.getElem?_modify, Ne.symm hk]⟩
theorem yl_store {x y : Operand} {T T0 : TypeId} {sz by_ b off : Nat} {z : Option Value} {ag : Bool} {v : Value} {vs cs : List Value} (hT : tyB P T = some (sz, by_, z, ag)) (ho : o.op = .store T x y) (hx : opv L x = some (.pointer (some ⟨b, off, none⟩)))
    (hy : opv L y = some v) (hc : v.cells = vs.toArray) (hl : vs.length = sz) (h1 : vs.all Value.oneCell' = true) (hB : Box w b T0 cs) (hoff : off + sz ≤ cs.length)
    (hR : ∀ w', Box w' b T0 (splice cs off vs) → Only b w w' → R undef w') : Yl P o L w R := fun ρ hρ => by
  have h1' : ∀ u ∈ vs, u.oneCell' = true := by simpa using h1
  have hst := run_storeCells_at (P := P) b off T0 vs 0 cs.toArray w hB (by simp; omega) h1'
  have e : (execOp ρ o).run P w = .ok .skip (w.setRow b (splice cs off vs).toArray) := by
    simp only [execOp, ho, hρ x _ hx, hρ y _ hy, Instr.storeAt, Instr.sureAddr, pure_bind, storeVar, Sem.run_bind, run_size hT, Result.andThen_ok, hc]
    have : ¬ (vs.toArray.size ≠ sz) := by simp [hl]
    simp only [if_neg this]
    simp only [Nat.add_zero] at hst
    rw [hst]
    rfl
  unfold YlR
  rw [e]
  refine hR _ ?_ (setRow_only _ _ _)
  unfold Box
  exact setRow_heap w b cs.toArray (splice cs off vs).toArray T0 _ hB
end
end Go.X
