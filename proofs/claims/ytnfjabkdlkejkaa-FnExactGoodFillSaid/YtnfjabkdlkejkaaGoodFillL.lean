/- Good Fill: plain laws of the models. -/
import Derived.Test.YtnfjabkdlkejkaaGoodFillT
set_option linter.unusedVariables false
set_option linter.unusedSimpArgs false
namespace Go.Proofs.Ytnfjabkdlkejkaa
open Go.RowKit Go.X
theorem szok_Fill {x : DFill} {L : Int} (hw : wf_Fill x) (hL : 0 ≤ L ∧ L ≤ 1048576) (h : ¬ l_szFill x L < 0) : ok_Fill x ∧ 0 ≤ l_szFill x L ∧ l_szFill x L ≤ 1048576 := by
  unfold l_szFill at h ⊢
  obtain ⟨a0, e0, h⟩ := szc h
  rw [e0]
  have s0 := szS_ok hw hL a0
  exact ⟨s0.1, s0.2⟩
theorem to_Fill (x : DFill) : l_toFill x = x := rfl
theorem within_eq : i_within = s_l1In := rfl
theorem f_l1In {n lo hi : Int} (h : s_l1In n lo hi = true) : lo ≤ n ∧ n ≤ hi := by
  unfold s_l1In at h
  obtain ⟨h1, h2⟩ := of_cond_f h
  exact ⟨of_decide_eq_true h1, of_decide_eq_true h2⟩
theorem f_within {n lo hi : Int} (h : i_within n lo hi = true) : lo ≤ n ∧ n ≤ hi := f_l1In h
theorem indexByte_neg (l : List UInt8) (c : UInt8) : decide (Lib.indexByte l c < 0) = !(l.contains c) := by
  induction l with
  | nil => rfl
  | cons b l ih =>
    have hge := Lib.indexByte_ge l c
    rw [Bool.eq_iff_iff] at ih ⊢
    simp only [decide_eq_true_eq, Bool.not_eq_true', List.contains_cons] at ih ⊢
    unfold Lib.indexByte
    by_cases hb : b = c
    · subst hb; simp
    · have hb1 : (b == c) = false := by simpa using hb
      have hb2 : (c == b) = false := by simpa using fun h => hb h.symm
      rw [hb1, hb2]
      simp only [Bool.false_or, Bool.false_eq_true, if_false]
      split
      · rename_i h
        have : Lib.indexByte l c = -1 := by simpa using h
        rw [← ih]; omega
      · rename_i h
        have : Lib.indexByte l c ≠ -1 := by simpa using h
        constructor
        · intro h; omega
        · intro h; have := ih.2 h; omega
theorem byte_back (b : UInt8) : ((b.toNat : Int)).toNat.toUInt8 = b := by simp
theorem idxB_neg (s : Str) (b : UInt8) : decide (idxB s (b.toNat : Int) < 0) = !(s.contains b) := by
  unfold idxB
  rw [byte_back, indexByte_neg]
def byteOk (more : Str) (b : UInt8) : Bool := i_isLowerOrDigit (b.toNat : Int) || more.contains b
theorem hasBytes_eq (s more : Str) : i_hasBytes s more = s.all (byteOk more) := by
  unfold i_hasBytes
  rw [allE (0 : UInt8) (byteOk more) (r := false) fun k => by
    unfold B_i_hasBytes_0 byteOk g_strings_IndexByte g_internal_stringslite_IndexByte
    rw [idxB_neg]
    cases i_isLowerOrDigit ((s.getD k 0).toNat : Int) <;> cases more.contains (s.getD k 0) <;> rfl]
  cases s.all (byteOk more) <;> rfl
theorem toNat_eq (a b : UInt8) : decide ((a.toNat : Int) = (b.toNat : Int)) = (a == b) := by
  rw [Bool.eq_iff_iff, decide_eq_true_iff, beq_iff_eq]
  constructor
  · intro h; exact UInt8.toNat.inj (by omega)
  · intro h; rw [h]
theorem l3B1 {T : Type} (s more : Str) (k : Nat) (x0 : Bool) (fr : Bool → T) (fd : Bool → T) : loopE (loopM (B_s_l3Bytes_1 s more k) (more.length - 0) 0 x0) fr fd = fd (x0 || more.contains (s.getD k 0)) := by
  rw [orE (0 : UInt8) (fun b => (s.getD k 0) == b) fun j x => by
    unfold B_s_l3Bytes_1
    rw [toNat_eq]
    cases x <;> rfl]
  rw [List.contains_eq_any_beq]
theorem l3Bytes_eq (s more : Str) : s_l3Bytes s more = s.all (byteOk more) := by
  unfold s_l3Bytes
  rw [allE (0 : UInt8) (byteOk more) (r := false) fun k => by
    unfold B_s_l3Bytes_0 byteOk i_isLowerOrDigit
    simp only [l3B1]
    cases decide (97 ≤ ((s.getD k 0).toNat : Int)) <;> cases decide (((s.getD k 0).toNat : Int) ≤ 122) <;> cases decide (48 ≤ ((s.getD k 0).toNat : Int)) <;> cases decide (((s.getD k 0).toNat : Int) ≤ 57) <;> cases more.contains (s.getD k 0) <;> rfl]
  cases s.all (byteOk more) <;> rfl
theorem GoodKey_eq (s : Str) : i_GoodKey s = s_l3Key s := by
  unfold i_GoodKey s_l3Key
  rw [hasBytes_eq, l3Bytes_eq, within_eq]
theorem GoodFill_eq (f : DFill) : i_GoodFill f = s_GoodFill f := by
  unfold i_GoodFill s_GoodFill
  rw [GoodKey_eq]
theorem true_GoodFill (f : DFill) (_ : wf_Fill f) : l_FnExactGoodFill f = true := by
  unfold l_FnExactGoodFill
  simp only [GoodFill_eq, beq_self_eq_true, cond_true, Bool.cond_self]
end Go.Proofs.Ytnfjabkdlkejkaa
