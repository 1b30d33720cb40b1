/-
  No cell of these rows narrows 'for every input' (looked for: loops, veiled, ifaces, maps, wideKeys, modest, calm, conditions, laid).
  DERIVED. THE GIVEN ROWS OF THIS SEAT. 7 by the template 'for every input the law returns true; each argument reads behind the call as it read before'; 0 by the template 'total and deterministic' (their statements: YtfmepgbpbbneaaaTotals.lean).
  GIVEN WITH THE SEED: the statements are not yours to turn. If you find one false, say at which input.
  Laid BY PROGRAM, IN A SANDBOX (cutbox-rows.mjs): the forced cells as the released guide's own fill.sh prints them over the translation ae9c231c187c554d… (all of the seat's roots in one cut). By AI agents, Wed Nov 11 2026. No macro, syntax, notation, axiom, sorry.
-/
import Derived.Test.YtfmepgbpbbneaaaChecked
import GoSem.Claim
import GoSem.ClaimJoined
import GoSem.ClaimMapViews
import Derived.JoinedTies
import Derived.KernelRfl
namespace Go.Proofs.Ytfmepgbpbbneaaa
/- THE CELL 'sum', in the pinned program and in every row, IS THE sha256 OF THE DUMP (.gsa) THAT YtfmepgbpbbneaaaProg.lean LOADS. Nothing in Lean hashes anything: it is a label: what it is worth is what the hold of that sum in a sandbox is worth. -/
noncomputable def Try.pinned : Pinned := { name := "ytfmepgbpbbneaaa", sum := "ae9c231c187c554dfbe1ea66da9b167d7c3c0c72c7cf1c7e310ed8f9ca2b7cee", checked := Try.checked }
namespace Rows
def none {H : Type} : Left H := { results := [], args := [] }

/-- 'laws.FnExactNewRenew': WHATEVER THE INPUT: true; the input reads as it did. -/
def fnExactNewRenewSpec : ChangeSpec := { name := "fnExactNewRenew", fn := fun _ => fun
  | [d] => { results := [.lit (.bool true)], args := [d] }
  | _ => none }
def fnExactNewRenewRow : OpenClaim := { program := "ytfmepgbpbbneaaa", sum := "ae9c231c187c554dfbe1ea66da9b167d7c3c0c72c7cf1c7e310ed8f9ca2b7cee", func := "loop.example/g00850/laws.FnExactNewRenew", spec := "fnExactNewRenew", apart := false }
def FnExactNewRenewSaid : Prop := fnExactNewRenewRow.holds Try.pinned (OpenSpec.ofChange fnExactNewRenewSpec)

/-- ITS FALSE NEIGHBOUR: 'it returns false'. Refute it at one input. -/
def fnExactNewRenewWrong : ChangeSpec := { name := "fnExactNewRenew", fn := fun _ => fun
  | [d] => { results := [.lit (.bool false)], args := [d] }
  | _ => none }
def FnExactNewRenewWrongFalsely : Prop := fnExactNewRenewRow.holds Try.pinned (OpenSpec.ofChange fnExactNewRenewWrong)

/-- 'laws.FnExactDiffBytes': WHATEVER THE INPUT: true; the input reads as it did. -/
def fnExactDiffBytesSpec : ChangeSpec := { name := "fnExactDiffBytes", fn := fun _ => fun
  | [d] => { results := [.lit (.bool true)], args := [d] }
  | _ => none }
def fnExactDiffBytesRow : OpenClaim := { program := "ytfmepgbpbbneaaa", sum := "ae9c231c187c554dfbe1ea66da9b167d7c3c0c72c7cf1c7e310ed8f9ca2b7cee", func := "loop.example/g00850/laws.FnExactDiffBytes", spec := "fnExactDiffBytes", inPlace := ["internal/bytealg.IndexByteString"], unfollowed := true, recurses := true, apart := false }
def FnExactDiffBytesSaid : Prop := fnExactDiffBytesRow.holds Try.pinned (OpenSpec.ofChange fnExactDiffBytesSpec)

/-- ITS FALSE NEIGHBOUR: 'it returns false'. Refute it at one input. -/
def fnExactDiffBytesWrong : ChangeSpec := { name := "fnExactDiffBytes", fn := fun _ => fun
  | [d] => { results := [.lit (.bool false)], args := [d] }
  | _ => none }
def FnExactDiffBytesWrongFalsely : Prop := fnExactDiffBytesRow.holds Try.pinned (OpenSpec.ofChange fnExactDiffBytesWrong)

/-- 'laws.FnExactRowWrite': WHATEVER THE INPUT: true; the input reads as it did. -/
def fnExactRowWriteSpec : ChangeSpec := { name := "fnExactRowWrite", fn := fun _ => fun
  | [d1, d2] => { results := [.lit (.bool true)], args := [d1, d2] }
  | _ => none }
def fnExactRowWriteRow : OpenClaim := { program := "ytfmepgbpbbneaaa", sum := "ae9c231c187c554dfbe1ea66da9b167d7c3c0c72c7cf1c7e310ed8f9ca2b7cee", func := "loop.example/g00850/laws.FnExactRowWrite", spec := "fnExactRowWrite", inPlace := ["internal/bytealg.IndexByteString", "internal/abi.NoEscape", "internal/bytealg.MakeNoZero"], unfollowed := true, recurses := true, apart := false }
def FnExactRowWriteSaid : Prop := fnExactRowWriteRow.holds Try.pinned (OpenSpec.ofChange fnExactRowWriteSpec)

/-- ITS FALSE NEIGHBOUR: 'it returns false'. Refute it at one input. -/
def fnExactRowWriteWrong : ChangeSpec := { name := "fnExactRowWrite", fn := fun _ => fun
  | [d1, d2] => { results := [.lit (.bool false)], args := [d1, d2] }
  | _ => none }
def FnExactRowWriteWrongFalsely : Prop := fnExactRowWriteRow.holds Try.pinned (OpenSpec.ofChange fnExactRowWriteWrong)

/-- 'laws.FnExactStmtText': WHATEVER THE INPUT: true; the input reads as it did. -/
def fnExactStmtTextSpec : ChangeSpec := { name := "fnExactStmtText", fn := fun _ => fun
  | [d1, d2] => { results := [.lit (.bool true)], args := [d1, d2] }
  | _ => none }
def fnExactStmtTextRow : OpenClaim := { program := "ytfmepgbpbbneaaa", sum := "ae9c231c187c554dfbe1ea66da9b167d7c3c0c72c7cf1c7e310ed8f9ca2b7cee", func := "loop.example/g00850/laws.FnExactStmtText", spec := "fnExactStmtText", inPlace := ["internal/bytealg.IndexByteString", "internal/abi.NoEscape", "internal/bytealg.MakeNoZero"], unfollowed := true, recurses := true, apart := false }
def FnExactStmtTextSaid : Prop := fnExactStmtTextRow.holds Try.pinned (OpenSpec.ofChange fnExactStmtTextSpec)

/-- ITS FALSE NEIGHBOUR: 'it returns false'. Refute it at one input. -/
def fnExactStmtTextWrong : ChangeSpec := { name := "fnExactStmtText", fn := fun _ => fun
  | [d1, d2] => { results := [.lit (.bool false)], args := [d1, d2] }
  | _ => none }
def FnExactStmtTextWrongFalsely : Prop := fnExactStmtTextRow.holds Try.pinned (OpenSpec.ofChange fnExactStmtTextWrong)

/-- 'laws.FnExactAreClose': WHATEVER THE INPUT: true; the input reads as it did. -/
def fnExactAreCloseSpec : ChangeSpec := { name := "fnExactAreClose", fn := fun _ => fun
  | [d] => { results := [.lit (.bool true)], args := [d] }
  | _ => none }
def fnExactAreCloseRow : OpenClaim := { program := "ytfmepgbpbbneaaa", sum := "ae9c231c187c554dfbe1ea66da9b167d7c3c0c72c7cf1c7e310ed8f9ca2b7cee", func := "loop.example/g00850/laws.FnExactAreClose", spec := "fnExactAreClose", inPlace := ["internal/bytealg.IndexByteString"], unfollowed := true, recurses := true, apart := false }
def FnExactAreCloseSaid : Prop := fnExactAreCloseRow.holds Try.pinned (OpenSpec.ofChange fnExactAreCloseSpec)

/-- ITS FALSE NEIGHBOUR: 'it returns false'. Refute it at one input. -/
def fnExactAreCloseWrong : ChangeSpec := { name := "fnExactAreClose", fn := fun _ => fun
  | [d] => { results := [.lit (.bool false)], args := [d] }
  | _ => none }
def FnExactAreCloseWrongFalsely : Prop := fnExactAreCloseRow.holds Try.pinned (OpenSpec.ofChange fnExactAreCloseWrong)

/-- 'laws.FnExactNeedOf': WHATEVER THE INPUT: true; the input reads as it did. -/
def fnExactNeedOfSpec : ChangeSpec := { name := "fnExactNeedOf", fn := fun _ => fun
  | [d] => { results := [.lit (.bool true)], args := [d] }
  | _ => none }
def fnExactNeedOfRow : OpenClaim := { program := "ytfmepgbpbbneaaa", sum := "ae9c231c187c554dfbe1ea66da9b167d7c3c0c72c7cf1c7e310ed8f9ca2b7cee", func := "loop.example/g00850/laws.FnExactNeedOf", spec := "fnExactNeedOf", inPlace := ["internal/bytealg.IndexByteString"], unfollowed := true, recurses := true, apart := false }
def FnExactNeedOfSaid : Prop := fnExactNeedOfRow.holds Try.pinned (OpenSpec.ofChange fnExactNeedOfSpec)

/-- ITS FALSE NEIGHBOUR: 'it returns false'. Refute it at one input. -/
def fnExactNeedOfWrong : ChangeSpec := { name := "fnExactNeedOf", fn := fun _ => fun
  | [d] => { results := [.lit (.bool false)], args := [d] }
  | _ => none }
def FnExactNeedOfWrongFalsely : Prop := fnExactNeedOfRow.holds Try.pinned (OpenSpec.ofChange fnExactNeedOfWrong)

/-- 'laws.FnExactNewShift': WHATEVER THE INPUT: true; the input reads as it did. -/
def fnExactNewShiftSpec : ChangeSpec := { name := "fnExactNewShift", fn := fun _ => fun
  | [d1, d2, d3, d4, d5] => { results := [.lit (.bool true)], args := [d1, d2, d3, d4, d5] }
  | _ => none }
def fnExactNewShiftRow : OpenClaim := { program := "ytfmepgbpbbneaaa", sum := "ae9c231c187c554dfbe1ea66da9b167d7c3c0c72c7cf1c7e310ed8f9ca2b7cee", func := "loop.example/g00850/laws.FnExactNewShift", spec := "fnExactNewShift", inPlace := ["internal/bytealg.IndexByteString"], unfollowed := true, recurses := true, apart := false }
def FnExactNewShiftSaid : Prop := fnExactNewShiftRow.holds Try.pinned (OpenSpec.ofChange fnExactNewShiftSpec)

/-- ITS FALSE NEIGHBOUR: 'it returns false'. Refute it at one input. -/
def fnExactNewShiftWrong : ChangeSpec := { name := "fnExactNewShift", fn := fun _ => fun
  | [d1, d2, d3, d4, d5] => { results := [.lit (.bool false)], args := [d1, d2, d3, d4, d5] }
  | _ => none }
def FnExactNewShiftWrongFalsely : Prop := fnExactNewShiftRow.holds Try.pinned (OpenSpec.ofChange fnExactNewShiftWrong)

/- THE SECOND FORM. 'bulk': how many values and letters a reading holds, each counted each time it is reached (what is shared counts as often as it is met; a slice's spare places count too). A statement '..UptoSaid' is the law's where the arguments, and the package variables that the reading takes, are together of bulk at most 1048576: NARROWER than '..Said'. Prove '..Said' where nothing that the law and all that it calls make is longer than what came in: it says more and counts as full. Else prove '..UptoSaid'. A law counts once. -/
mutual
def uptoBulk {H : Type} : DataW H → Nat
  | .lit (.string bytes) => bytes.length + 1
  | .lit _ => 1
  | .nil => 1
  | .ptr d => uptoBulk d + 1
  | .slice elems spare => uptoBulkAll elems + uptoBulkAll spare + 1
  | .agg parts => uptoBulkAll parts + 1
  | .iface _ d => uptoBulk d + 1
  | .map entries => uptoBulkEntries entries + 1
  | .held _ => 1
def uptoBulkAll {H : Type} : List (DataW H) → Nat
  | [] => 0
  | d :: r => uptoBulk d + uptoBulkAll r
def uptoBulkEntries {H : Type} : List (Lit × DataW H) → Nat
  | [] => 0
  | x :: r => uptoBulkEntry x + uptoBulkEntries r
def uptoBulkEntry {H : Type} : Lit × DataW H → Nat
  | (.string bytes, d) => bytes.length + uptoBulk d + 1
  | (_, d) => uptoBulk d + 1
 end
def uptoSmall : (H : Type) → List (DataW H) → Bool := fun _ ds => decide (uptoBulkAll ds ≤ 1048576)
def OpenSpec.upto (s : _root_.Go.ChangeSpec) : _root_.Go.OpenSpec := { _root_.Go.OpenSpec.ofChange s with cond := some uptoSmall }

/-- 'laws.FnExactNewRenew', WHERE WHAT IT READS IS OF BULK AT MOST 1048576: true; the input reads as it did. -/
def fnExactNewRenewUptoRow : OpenClaim := { program := "ytfmepgbpbbneaaa", sum := "ae9c231c187c554dfbe1ea66da9b167d7c3c0c72c7cf1c7e310ed8f9ca2b7cee", func := "loop.example/g00850/laws.FnExactNewRenew", spec := "fnExactNewRenew", apart := false, narrowed := true }
def FnExactNewRenewUptoSaid : Prop := fnExactNewRenewUptoRow.holds Try.pinned (OpenSpec.upto fnExactNewRenewSpec)

/-- 'laws.FnExactDiffBytes', WHERE WHAT IT READS IS OF BULK AT MOST 1048576: true; the input reads as it did. -/
def fnExactDiffBytesUptoRow : OpenClaim := { program := "ytfmepgbpbbneaaa", sum := "ae9c231c187c554dfbe1ea66da9b167d7c3c0c72c7cf1c7e310ed8f9ca2b7cee", func := "loop.example/g00850/laws.FnExactDiffBytes", spec := "fnExactDiffBytes", inPlace := ["internal/bytealg.IndexByteString"], unfollowed := true, recurses := true, apart := false, narrowed := true }
def FnExactDiffBytesUptoSaid : Prop := fnExactDiffBytesUptoRow.holds Try.pinned (OpenSpec.upto fnExactDiffBytesSpec)

/-- 'laws.FnExactRowWrite', WHERE WHAT IT READS IS OF BULK AT MOST 1048576: true; the input reads as it did. -/
def fnExactRowWriteUptoRow : OpenClaim := { program := "ytfmepgbpbbneaaa", sum := "ae9c231c187c554dfbe1ea66da9b167d7c3c0c72c7cf1c7e310ed8f9ca2b7cee", func := "loop.example/g00850/laws.FnExactRowWrite", spec := "fnExactRowWrite", inPlace := ["internal/bytealg.IndexByteString", "internal/abi.NoEscape", "internal/bytealg.MakeNoZero"], unfollowed := true, recurses := true, apart := false, narrowed := true }
def FnExactRowWriteUptoSaid : Prop := fnExactRowWriteUptoRow.holds Try.pinned (OpenSpec.upto fnExactRowWriteSpec)

/-- 'laws.FnExactStmtText', WHERE WHAT IT READS IS OF BULK AT MOST 1048576: true; the input reads as it did. -/
def fnExactStmtTextUptoRow : OpenClaim := { program := "ytfmepgbpbbneaaa", sum := "ae9c231c187c554dfbe1ea66da9b167d7c3c0c72c7cf1c7e310ed8f9ca2b7cee", func := "loop.example/g00850/laws.FnExactStmtText", spec := "fnExactStmtText", inPlace := ["internal/bytealg.IndexByteString", "internal/abi.NoEscape", "internal/bytealg.MakeNoZero"], unfollowed := true, recurses := true, apart := false, narrowed := true }
def FnExactStmtTextUptoSaid : Prop := fnExactStmtTextUptoRow.holds Try.pinned (OpenSpec.upto fnExactStmtTextSpec)

/-- 'laws.FnExactAreClose', WHERE WHAT IT READS IS OF BULK AT MOST 1048576: true; the input reads as it did. -/
def fnExactAreCloseUptoRow : OpenClaim := { program := "ytfmepgbpbbneaaa", sum := "ae9c231c187c554dfbe1ea66da9b167d7c3c0c72c7cf1c7e310ed8f9ca2b7cee", func := "loop.example/g00850/laws.FnExactAreClose", spec := "fnExactAreClose", inPlace := ["internal/bytealg.IndexByteString"], unfollowed := true, recurses := true, apart := false, narrowed := true }
def FnExactAreCloseUptoSaid : Prop := fnExactAreCloseUptoRow.holds Try.pinned (OpenSpec.upto fnExactAreCloseSpec)

/-- 'laws.FnExactNeedOf', WHERE WHAT IT READS IS OF BULK AT MOST 1048576: true; the input reads as it did. -/
def fnExactNeedOfUptoRow : OpenClaim := { program := "ytfmepgbpbbneaaa", sum := "ae9c231c187c554dfbe1ea66da9b167d7c3c0c72c7cf1c7e310ed8f9ca2b7cee", func := "loop.example/g00850/laws.FnExactNeedOf", spec := "fnExactNeedOf", inPlace := ["internal/bytealg.IndexByteString"], unfollowed := true, recurses := true, apart := false, narrowed := true }
def FnExactNeedOfUptoSaid : Prop := fnExactNeedOfUptoRow.holds Try.pinned (OpenSpec.upto fnExactNeedOfSpec)

/-- 'laws.FnExactNewShift', WHERE WHAT IT READS IS OF BULK AT MOST 1048576: true; the input reads as it did. -/
def fnExactNewShiftUptoRow : OpenClaim := { program := "ytfmepgbpbbneaaa", sum := "ae9c231c187c554dfbe1ea66da9b167d7c3c0c72c7cf1c7e310ed8f9ca2b7cee", func := "loop.example/g00850/laws.FnExactNewShift", spec := "fnExactNewShift", inPlace := ["internal/bytealg.IndexByteString"], unfollowed := true, recurses := true, apart := false, narrowed := true }
def FnExactNewShiftUptoSaid : Prop := fnExactNewShiftUptoRow.holds Try.pinned (OpenSpec.upto fnExactNewShiftSpec)

end Rows
end Go.Proofs.Ytfmepgbpbbneaaa
