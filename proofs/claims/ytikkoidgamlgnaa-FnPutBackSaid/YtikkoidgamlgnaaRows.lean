/-
  No cell of these rows narrows 'for every input' (looked for: loops, veiled, ifaces, maps, wideKeys, modest, calm, conditions, laid).
  DERIVED. THE GIVEN ROWS OF THIS SEAT. 3 by the template 'for every input the law returns true; each argument reads behind the call as it read before'; 0 by the template 'total and deterministic' (their statements: YtikkoidgamlgnaaTotals.lean).
  GIVEN WITH THE SEED: the statements are not yours to turn. If you find one false, say at which input.
  Laid BY PROGRAM, IN A SANDBOX (cutbox-rows.mjs): the forced cells as the released guide's own fill.sh prints them over the translation 0a7da5e09d9316bd… (all of the seat's roots in one cut). By AI agents, Wed Nov 11 2026. No macro, syntax, notation, axiom, sorry.
-/
import Derived.Test.YtikkoidgamlgnaaChecked
import GoSem.Claim
import GoSem.ClaimJoined
import GoSem.ClaimMapViews
import Derived.JoinedTies
import Derived.KernelRfl
namespace Go.Proofs.Ytikkoidgamlgnaa
/- THE CELL 'sum', in the pinned program and in every row, IS THE sha256 OF THE DUMP (.gsa) THAT YtikkoidgamlgnaaProg.lean LOADS. Nothing in Lean hashes anything: it is a label: what it is worth is what the hold of that sum in a sandbox is worth. -/
noncomputable def Try.pinned : Pinned := { name := "ytikkoidgamlgnaa", sum := "0a7da5e09d9316bd42b240072aab1ee941f3c5218dcd957fb912bc028deb07e2", checked := Try.checked }
namespace Rows
def none {H : Type} : Left H := { results := [], args := [] }

/-- 'laws.FnCopyBytes': WHATEVER THE INPUT: true; the input reads as it did. -/
def fnCopyBytesSpec : ChangeSpec := { name := "fnCopyBytes", fn := fun _ => fun
  | [d] => { results := [.lit (.bool true)], args := [d] }
  | _ => none }
def fnCopyBytesRow : OpenClaim := { program := "ytikkoidgamlgnaa", sum := "0a7da5e09d9316bd42b240072aab1ee941f3c5218dcd957fb912bc028deb07e2", func := "loop.example/g00850/laws.FnCopyBytes", spec := "fnCopyBytes", inPlace := ["internal/bytealg.IndexByteString"], unfollowed := true, recurses := true, apart := false }
def FnCopyBytesSaid : Prop := fnCopyBytesRow.holds Try.pinned (OpenSpec.ofChange fnCopyBytesSpec)

/-- ITS FALSE NEIGHBOUR: 'it returns false'. Refute it at one input. -/
def fnCopyBytesWrong : ChangeSpec := { name := "fnCopyBytes", fn := fun _ => fun
  | [d] => { results := [.lit (.bool false)], args := [d] }
  | _ => none }
def FnCopyBytesWrongFalsely : Prop := fnCopyBytesRow.holds Try.pinned (OpenSpec.ofChange fnCopyBytesWrong)

/-- 'laws.FnDiffBytes': WHATEVER THE INPUT: true; the input reads as it did. -/
def fnDiffBytesSpec : ChangeSpec := { name := "fnDiffBytes", fn := fun _ => fun
  | [d] => { results := [.lit (.bool true)], args := [d] }
  | _ => none }
def fnDiffBytesRow : OpenClaim := { program := "ytikkoidgamlgnaa", sum := "0a7da5e09d9316bd42b240072aab1ee941f3c5218dcd957fb912bc028deb07e2", func := "loop.example/g00850/laws.FnDiffBytes", spec := "fnDiffBytes", inPlace := ["internal/bytealg.IndexByteString"], unfollowed := true, recurses := true, apart := false }
def FnDiffBytesSaid : Prop := fnDiffBytesRow.holds Try.pinned (OpenSpec.ofChange fnDiffBytesSpec)

/-- ITS FALSE NEIGHBOUR: 'it returns false'. Refute it at one input. -/
def fnDiffBytesWrong : ChangeSpec := { name := "fnDiffBytes", fn := fun _ => fun
  | [d] => { results := [.lit (.bool false)], args := [d] }
  | _ => none }
def FnDiffBytesWrongFalsely : Prop := fnDiffBytesRow.holds Try.pinned (OpenSpec.ofChange fnDiffBytesWrong)

/-- 'laws.FnPutBack': WHATEVER THE INPUT: true; the input reads as it did. -/
def fnPutBackSpec : ChangeSpec := { name := "fnPutBack", fn := fun _ => fun
  | [d] => { results := [.lit (.bool true)], args := [d] }
  | _ => none }
def fnPutBackRow : OpenClaim := { program := "ytikkoidgamlgnaa", sum := "0a7da5e09d9316bd42b240072aab1ee941f3c5218dcd957fb912bc028deb07e2", func := "loop.example/g00850/laws.FnPutBack", spec := "fnPutBack", inPlace := ["internal/bytealg.IndexByteString"], unfollowed := true, recurses := true, apart := false }
def FnPutBackSaid : Prop := fnPutBackRow.holds Try.pinned (OpenSpec.ofChange fnPutBackSpec)

/-- ITS FALSE NEIGHBOUR: 'it returns false'. Refute it at one input. -/
def fnPutBackWrong : ChangeSpec := { name := "fnPutBack", fn := fun _ => fun
  | [d] => { results := [.lit (.bool false)], args := [d] }
  | _ => none }
def FnPutBackWrongFalsely : Prop := fnPutBackRow.holds Try.pinned (OpenSpec.ofChange fnPutBackWrong)

/- THE SECOND FORM. 'bulk': how many values and letters a reading holds, each counted each time it is reached (what is shared counts as often as it is met; a slice's spare places count too). A statement '..UptoSaid' is the law's where the arguments, and the package variables that the reading takes, are together of bulk at most 1048576: NARROWER than '..Said'. Prove '..Said' where nothing that the law and all that it calls make is longer than what came in: it says more and counts as full. Else prove '..UptoSaid'. A law counts once. -/
mutual
def uptoBulk {H : Type} : DataW H → Nat
  | .lit (.string bytes) => bytes.length + 1
  | .lit _ => 1
  | .nil => 1
  | .ptr d => uptoBulk d + 1
  | .slice elems spare => uptoBulkAll elems + uptoBulkAll spare + 1
  | .agg parts => uptoBulkAll parts + 1
  | .iface _ d => uptoBulk d + 1
  | .map entries => uptoBulkEntries entries + 1
  | .held _ => 1
def uptoBulkAll {H : Type} : List (DataW H) → Nat
  | [] => 0
  | d :: r => uptoBulk d + uptoBulkAll r
def uptoBulkEntries {H : Type} : List (Lit × DataW H) → Nat
  | [] => 0
  | x :: r => uptoBulkEntry x + uptoBulkEntries r
def uptoBulkEntry {H : Type} : Lit × DataW H → Nat
  | (.string bytes, d) => bytes.length + uptoBulk d + 1
  | (_, d) => uptoBulk d + 1
 end
def uptoSmall : (H : Type) → List (DataW H) → Bool := fun _ ds => decide (uptoBulkAll ds ≤ 1048576)
def OpenSpec.upto (s : _root_.Go.ChangeSpec) : _root_.Go.OpenSpec := { _root_.Go.OpenSpec.ofChange s with cond := some uptoSmall }

/-- 'laws.FnCopyBytes', WHERE WHAT IT READS IS OF BULK AT MOST 1048576: true; the input reads as it did. -/
def fnCopyBytesUptoRow : OpenClaim := { program := "ytikkoidgamlgnaa", sum := "0a7da5e09d9316bd42b240072aab1ee941f3c5218dcd957fb912bc028deb07e2", func := "loop.example/g00850/laws.FnCopyBytes", spec := "fnCopyBytes", inPlace := ["internal/bytealg.IndexByteString"], unfollowed := true, recurses := true, apart := false, narrowed := true }
def FnCopyBytesUptoSaid : Prop := fnCopyBytesUptoRow.holds Try.pinned (OpenSpec.upto fnCopyBytesSpec)

/-- 'laws.FnDiffBytes', WHERE WHAT IT READS IS OF BULK AT MOST 1048576: true; the input reads as it did. -/
def fnDiffBytesUptoRow : OpenClaim := { program := "ytikkoidgamlgnaa", sum := "0a7da5e09d9316bd42b240072aab1ee941f3c5218dcd957fb912bc028deb07e2", func := "loop.example/g00850/laws.FnDiffBytes", spec := "fnDiffBytes", inPlace := ["internal/bytealg.IndexByteString"], unfollowed := true, recurses := true, apart := false, narrowed := true }
def FnDiffBytesUptoSaid : Prop := fnDiffBytesUptoRow.holds Try.pinned (OpenSpec.upto fnDiffBytesSpec)

/-- 'laws.FnPutBack', WHERE WHAT IT READS IS OF BULK AT MOST 1048576: true; the input reads as it did. -/
def fnPutBackUptoRow : OpenClaim := { program := "ytikkoidgamlgnaa", sum := "0a7da5e09d9316bd42b240072aab1ee941f3c5218dcd957fb912bc028deb07e2", func := "loop.example/g00850/laws.FnPutBack", spec := "fnPutBack", inPlace := ["internal/bytealg.IndexByteString"], unfollowed := true, recurses := true, apart := false, narrowed := true }
def FnPutBackUptoSaid : Prop := fnPutBackUptoRow.holds Try.pinned (OpenSpec.upto fnPutBackSpec)

end Rows
end Go.Proofs.Ytikkoidgamlgnaa
