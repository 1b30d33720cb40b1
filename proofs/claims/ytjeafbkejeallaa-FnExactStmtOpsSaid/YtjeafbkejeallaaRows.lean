/-
  No cell of these rows narrows 'for every input' (looked for: loops, veiled, ifaces, maps, wideKeys, modest, calm, conditions, laid).
  DERIVED. THE GIVEN ROWS OF THIS SEAT. 9 by the template 'for every input the law returns true; each argument reads behind the call as it read before'; 0 by the template 'total and deterministic' (their statements: YtjeafbkejeallaaTotals.lean).
  GIVEN WITH THE SEED: the statements are not yours to turn. If you find one false, say at which input.
  Laid BY PROGRAM, IN A SANDBOX (cutbox-rows.mjs): the forced cells as the released guide's own fill.sh prints them over the translation 45a59c7f3f376a8b… (all of the seat's roots in one cut). By AI agents, Wed Nov 11 2026. No macro, syntax, notation, axiom, sorry.
-/
import Derived.Test.YtjeafbkejeallaaChecked
import GoSem.Claim
import GoSem.ClaimJoined
import GoSem.ClaimMapViews
import Derived.JoinedTies
import Derived.KernelRfl
namespace Go.Proofs.Ytjeafbkejeallaa
/- THE CELL 'sum', in the pinned program and in every row, IS THE sha256 OF THE DUMP (.gsa) THAT YtjeafbkejeallaaProg.lean LOADS. Nothing in Lean hashes anything: it is a label: what it is worth is what the hold of that sum in a sandbox is worth. -/
noncomputable def Try.pinned : Pinned := { name := "ytjeafbkejeallaa", sum := "45a59c7f3f376a8bea2cd92447add49dca1328ef07bdbb88dc16e25664952a97", checked := Try.checked }
namespace Rows
def none {H : Type} : Left H := { results := [], args := [] }

/-- 'laws.FnExactJoinDiffs': WHATEVER THE INPUT: true; the input reads as it did. -/
def fnExactJoinDiffsSpec : ChangeSpec := { name := "fnExactJoinDiffs", fn := fun _ => fun
  | [d1, d2] => { results := [.lit (.bool true)], args := [d1, d2] }
  | _ => none }
def fnExactJoinDiffsRow : OpenClaim := { program := "ytjeafbkejeallaa", sum := "45a59c7f3f376a8bea2cd92447add49dca1328ef07bdbb88dc16e25664952a97", func := "loop.example/g00850/laws.FnExactJoinDiffs", spec := "fnExactJoinDiffs", inPlace := ["internal/bytealg.IndexByteString"], unfollowed := true, recurses := true, apart := false }
def FnExactJoinDiffsSaid : Prop := fnExactJoinDiffsRow.holds Try.pinned (OpenSpec.ofChange fnExactJoinDiffsSpec)

/-- ITS FALSE NEIGHBOUR: 'it returns false'. Refute it at one input. -/
def fnExactJoinDiffsWrong : ChangeSpec := { name := "fnExactJoinDiffs", fn := fun _ => fun
  | [d1, d2] => { results := [.lit (.bool false)], args := [d1, d2] }
  | _ => none }
def FnExactJoinDiffsWrongFalsely : Prop := fnExactJoinDiffsRow.holds Try.pinned (OpenSpec.ofChange fnExactJoinDiffsWrong)

/-- 'laws.FnExactReadCopy': WHATEVER THE INPUT: true; the input reads as it did. -/
def fnExactReadCopySpec : ChangeSpec := { name := "fnExactReadCopy", fn := fun _ => fun
  | [d] => { results := [.lit (.bool true)], args := [d] }
  | _ => none }
def fnExactReadCopyRow : OpenClaim := { program := "ytjeafbkejeallaa", sum := "45a59c7f3f376a8bea2cd92447add49dca1328ef07bdbb88dc16e25664952a97", func := "loop.example/g00850/laws.FnExactReadCopy", spec := "fnExactReadCopy", inPlace := ["internal/bytealg.IndexByteString"], unfollowed := true, recurses := true, apart := false }
def FnExactReadCopySaid : Prop := fnExactReadCopyRow.holds Try.pinned (OpenSpec.ofChange fnExactReadCopySpec)

/-- ITS FALSE NEIGHBOUR: 'it returns false'. Refute it at one input. -/
def fnExactReadCopyWrong : ChangeSpec := { name := "fnExactReadCopy", fn := fun _ => fun
  | [d] => { results := [.lit (.bool false)], args := [d] }
  | _ => none }
def FnExactReadCopyWrongFalsely : Prop := fnExactReadCopyRow.holds Try.pinned (OpenSpec.ofChange fnExactReadCopyWrong)

/-- 'laws.FnExactCopyAt': WHATEVER THE INPUT: true; the input reads as it did. -/
def fnExactCopyAtSpec : ChangeSpec := { name := "fnExactCopyAt", fn := fun _ => fun
  | [d1, d2] => { results := [.lit (.bool true)], args := [d1, d2] }
  | _ => none }
def fnExactCopyAtRow : OpenClaim := { program := "ytjeafbkejeallaa", sum := "45a59c7f3f376a8bea2cd92447add49dca1328ef07bdbb88dc16e25664952a97", func := "loop.example/g00850/laws.FnExactCopyAt", spec := "fnExactCopyAt", inPlace := ["internal/bytealg.IndexByteString"], unfollowed := true, recurses := true, apart := false }
def FnExactCopyAtSaid : Prop := fnExactCopyAtRow.holds Try.pinned (OpenSpec.ofChange fnExactCopyAtSpec)

/-- ITS FALSE NEIGHBOUR: 'it returns false'. Refute it at one input. -/
def fnExactCopyAtWrong : ChangeSpec := { name := "fnExactCopyAt", fn := fun _ => fun
  | [d1, d2] => { results := [.lit (.bool false)], args := [d1, d2] }
  | _ => none }
def FnExactCopyAtWrongFalsely : Prop := fnExactCopyAtRow.holds Try.pinned (OpenSpec.ofChange fnExactCopyAtWrong)

/-- 'laws.FnExactReadDiff': WHATEVER THE INPUT: true; the input reads as it did. -/
def fnExactReadDiffSpec : ChangeSpec := { name := "fnExactReadDiff", fn := fun _ => fun
  | [d] => { results := [.lit (.bool true)], args := [d] }
  | _ => none }
def fnExactReadDiffRow : OpenClaim := { program := "ytjeafbkejeallaa", sum := "45a59c7f3f376a8bea2cd92447add49dca1328ef07bdbb88dc16e25664952a97", func := "loop.example/g00850/laws.FnExactReadDiff", spec := "fnExactReadDiff", inPlace := ["internal/bytealg.IndexByteString"], unfollowed := true, recurses := true, apart := false }
def FnExactReadDiffSaid : Prop := fnExactReadDiffRow.holds Try.pinned (OpenSpec.ofChange fnExactReadDiffSpec)

/-- ITS FALSE NEIGHBOUR: 'it returns false'. Refute it at one input. -/
def fnExactReadDiffWrong : ChangeSpec := { name := "fnExactReadDiff", fn := fun _ => fun
  | [d] => { results := [.lit (.bool false)], args := [d] }
  | _ => none }
def FnExactReadDiffWrongFalsely : Prop := fnExactReadDiffRow.holds Try.pinned (OpenSpec.ofChange fnExactReadDiffWrong)

/-- 'laws.FnExactFillOps': WHATEVER THE INPUT: true; the input reads as it did. -/
def fnExactFillOpsSpec : ChangeSpec := { name := "fnExactFillOps", fn := fun _ => fun
  | [d1, d2, d3] => { results := [.lit (.bool true)], args := [d1, d2, d3] }
  | _ => none }
def fnExactFillOpsRow : OpenClaim := { program := "ytjeafbkejeallaa", sum := "45a59c7f3f376a8bea2cd92447add49dca1328ef07bdbb88dc16e25664952a97", func := "loop.example/g00850/laws.FnExactFillOps", spec := "fnExactFillOps", inPlace := ["internal/bytealg.IndexByteString", "internal/abi.NoEscape", "internal/bytealg.MakeNoZero"], unfollowed := true, recurses := true, apart := false }
def FnExactFillOpsSaid : Prop := fnExactFillOpsRow.holds Try.pinned (OpenSpec.ofChange fnExactFillOpsSpec)

/-- ITS FALSE NEIGHBOUR: 'it returns false'. Refute it at one input. -/
def fnExactFillOpsWrong : ChangeSpec := { name := "fnExactFillOps", fn := fun _ => fun
  | [d1, d2, d3] => { results := [.lit (.bool false)], args := [d1, d2, d3] }
  | _ => none }
def FnExactFillOpsWrongFalsely : Prop := fnExactFillOpsRow.holds Try.pinned (OpenSpec.ofChange fnExactFillOpsWrong)

/-- 'laws.FnExactClearOps': WHATEVER THE INPUT: true; the input reads as it did. -/
def fnExactClearOpsSpec : ChangeSpec := { name := "fnExactClearOps", fn := fun _ => fun
  | [d1, d2, d3] => { results := [.lit (.bool true)], args := [d1, d2, d3] }
  | _ => none }
def fnExactClearOpsRow : OpenClaim := { program := "ytjeafbkejeallaa", sum := "45a59c7f3f376a8bea2cd92447add49dca1328ef07bdbb88dc16e25664952a97", func := "loop.example/g00850/laws.FnExactClearOps", spec := "fnExactClearOps", inPlace := ["internal/bytealg.IndexByteString", "internal/bytealg.IndexString"], unfollowed := true, recurses := true, named := ["internal/bytealg.MaxLen"], apart := false }
def FnExactClearOpsSaid : Prop := fnExactClearOpsRow.holds Try.pinned (OpenSpec.ofChange fnExactClearOpsSpec)

/-- ITS FALSE NEIGHBOUR: 'it returns false'. Refute it at one input. -/
def fnExactClearOpsWrong : ChangeSpec := { name := "fnExactClearOps", fn := fun _ => fun
  | [d1, d2, d3] => { results := [.lit (.bool false)], args := [d1, d2, d3] }
  | _ => none }
def FnExactClearOpsWrongFalsely : Prop := fnExactClearOpsRow.holds Try.pinned (OpenSpec.ofChange fnExactClearOpsWrong)

/-- 'laws.FnExactEntriesIn': WHATEVER THE INPUT: true; the input reads as it did. -/
def fnExactEntriesInSpec : ChangeSpec := { name := "fnExactEntriesIn", fn := fun _ => fun
  | [d1, d2, d3] => { results := [.lit (.bool true)], args := [d1, d2, d3] }
  | _ => none }
def fnExactEntriesInRow : OpenClaim := { program := "ytjeafbkejeallaa", sum := "45a59c7f3f376a8bea2cd92447add49dca1328ef07bdbb88dc16e25664952a97", func := "loop.example/g00850/laws.FnExactEntriesIn", spec := "fnExactEntriesIn", inPlace := ["internal/bytealg.IndexByteString", "internal/bytealg.IndexString"], unfollowed := true, recurses := true, named := ["internal/bytealg.MaxLen"], apart := false }
def FnExactEntriesInSaid : Prop := fnExactEntriesInRow.holds Try.pinned (OpenSpec.ofChange fnExactEntriesInSpec)

/-- ITS FALSE NEIGHBOUR: 'it returns false'. Refute it at one input. -/
def fnExactEntriesInWrong : ChangeSpec := { name := "fnExactEntriesIn", fn := fun _ => fun
  | [d1, d2, d3] => { results := [.lit (.bool false)], args := [d1, d2, d3] }
  | _ => none }
def FnExactEntriesInWrongFalsely : Prop := fnExactEntriesInRow.holds Try.pinned (OpenSpec.ofChange fnExactEntriesInWrong)

/-- 'laws.FnExactOpsFor': WHATEVER THE INPUT: true; the input reads as it did. -/
def fnExactOpsForSpec : ChangeSpec := { name := "fnExactOpsFor", fn := fun _ => fun
  | [d1, d2] => { results := [.lit (.bool true)], args := [d1, d2] }
  | _ => none }
def fnExactOpsForRow : OpenClaim := { program := "ytjeafbkejeallaa", sum := "45a59c7f3f376a8bea2cd92447add49dca1328ef07bdbb88dc16e25664952a97", func := "loop.example/g00850/laws.FnExactOpsFor", spec := "fnExactOpsFor", inPlace := ["internal/bytealg.IndexByteString", "internal/abi.NoEscape", "internal/bytealg.MakeNoZero"], unfollowed := true, recurses := true, apart := false }
def FnExactOpsForSaid : Prop := fnExactOpsForRow.holds Try.pinned (OpenSpec.ofChange fnExactOpsForSpec)

/-- ITS FALSE NEIGHBOUR: 'it returns false'. Refute it at one input. -/
def fnExactOpsForWrong : ChangeSpec := { name := "fnExactOpsFor", fn := fun _ => fun
  | [d1, d2] => { results := [.lit (.bool false)], args := [d1, d2] }
  | _ => none }
def FnExactOpsForWrongFalsely : Prop := fnExactOpsForRow.holds Try.pinned (OpenSpec.ofChange fnExactOpsForWrong)

/-- 'laws.FnExactStmtOps': WHATEVER THE INPUT: true; the input reads as it did. -/
def fnExactStmtOpsSpec : ChangeSpec := { name := "fnExactStmtOps", fn := fun _ => fun
  | [d1, d2] => { results := [.lit (.bool true)], args := [d1, d2] }
  | _ => none }
def fnExactStmtOpsRow : OpenClaim := { program := "ytjeafbkejeallaa", sum := "45a59c7f3f376a8bea2cd92447add49dca1328ef07bdbb88dc16e25664952a97", func := "loop.example/g00850/laws.FnExactStmtOps", spec := "fnExactStmtOps", inPlace := ["internal/bytealg.IndexByteString", "internal/abi.NoEscape", "internal/bytealg.MakeNoZero"], unfollowed := true, recurses := true, apart := false }
def FnExactStmtOpsSaid : Prop := fnExactStmtOpsRow.holds Try.pinned (OpenSpec.ofChange fnExactStmtOpsSpec)

/-- ITS FALSE NEIGHBOUR: 'it returns false'. Refute it at one input. -/
def fnExactStmtOpsWrong : ChangeSpec := { name := "fnExactStmtOps", fn := fun _ => fun
  | [d1, d2] => { results := [.lit (.bool false)], args := [d1, d2] }
  | _ => none }
def FnExactStmtOpsWrongFalsely : Prop := fnExactStmtOpsRow.holds Try.pinned (OpenSpec.ofChange fnExactStmtOpsWrong)

/- THE SECOND FORM. 'bulk': how many values and letters a reading holds, each counted each time it is reached (what is shared counts as often as it is met; a slice's spare places count too). A statement '..UptoSaid' is the law's where the arguments, and the package variables that the reading takes, are together of bulk at most 1048576: NARROWER than '..Said'. Prove '..Said' where nothing that the law and all that it calls make is longer than what came in: it says more and counts as full. Else prove '..UptoSaid'. A law counts once. -/
mutual
def uptoBulk {H : Type} : DataW H → Nat
  | .lit (.string bytes) => bytes.length + 1
  | .lit _ => 1
  | .nil => 1
  | .ptr d => uptoBulk d + 1
  | .slice elems spare => uptoBulkAll elems + uptoBulkAll spare + 1
  | .agg parts => uptoBulkAll parts + 1
  | .iface _ d => uptoBulk d + 1
  | .map entries => uptoBulkEntries entries + 1
  | .held _ => 1
def uptoBulkAll {H : Type} : List (DataW H) → Nat
  | [] => 0
  | d :: r => uptoBulk d + uptoBulkAll r
def uptoBulkEntries {H : Type} : List (Lit × DataW H) → Nat
  | [] => 0
  | x :: r => uptoBulkEntry x + uptoBulkEntries r
def uptoBulkEntry {H : Type} : Lit × DataW H → Nat
  | (.string bytes, d) => bytes.length + uptoBulk d + 1
  | (_, d) => uptoBulk d + 1
 end
def uptoSmall : (H : Type) → List (DataW H) → Bool := fun _ ds => decide (uptoBulkAll ds ≤ 1048576)
def OpenSpec.upto (s : _root_.Go.ChangeSpec) : _root_.Go.OpenSpec := { _root_.Go.OpenSpec.ofChange s with cond := some uptoSmall }

/-- 'laws.FnExactJoinDiffs', WHERE WHAT IT READS IS OF BULK AT MOST 1048576: true; the input reads as it did. -/
def fnExactJoinDiffsUptoRow : OpenClaim := { program := "ytjeafbkejeallaa", sum := "45a59c7f3f376a8bea2cd92447add49dca1328ef07bdbb88dc16e25664952a97", func := "loop.example/g00850/laws.FnExactJoinDiffs", spec := "fnExactJoinDiffs", inPlace := ["internal/bytealg.IndexByteString"], unfollowed := true, recurses := true, apart := false, narrowed := true }
def FnExactJoinDiffsUptoSaid : Prop := fnExactJoinDiffsUptoRow.holds Try.pinned (OpenSpec.upto fnExactJoinDiffsSpec)

/-- 'laws.FnExactReadCopy', WHERE WHAT IT READS IS OF BULK AT MOST 1048576: true; the input reads as it did. -/
def fnExactReadCopyUptoRow : OpenClaim := { program := "ytjeafbkejeallaa", sum := "45a59c7f3f376a8bea2cd92447add49dca1328ef07bdbb88dc16e25664952a97", func := "loop.example/g00850/laws.FnExactReadCopy", spec := "fnExactReadCopy", inPlace := ["internal/bytealg.IndexByteString"], unfollowed := true, recurses := true, apart := false, narrowed := true }
def FnExactReadCopyUptoSaid : Prop := fnExactReadCopyUptoRow.holds Try.pinned (OpenSpec.upto fnExactReadCopySpec)

/-- 'laws.FnExactCopyAt', WHERE WHAT IT READS IS OF BULK AT MOST 1048576: true; the input reads as it did. -/
def fnExactCopyAtUptoRow : OpenClaim := { program := "ytjeafbkejeallaa", sum := "45a59c7f3f376a8bea2cd92447add49dca1328ef07bdbb88dc16e25664952a97", func := "loop.example/g00850/laws.FnExactCopyAt", spec := "fnExactCopyAt", inPlace := ["internal/bytealg.IndexByteString"], unfollowed := true, recurses := true, apart := false, narrowed := true }
def FnExactCopyAtUptoSaid : Prop := fnExactCopyAtUptoRow.holds Try.pinned (OpenSpec.upto fnExactCopyAtSpec)

/-- 'laws.FnExactReadDiff', WHERE WHAT IT READS IS OF BULK AT MOST 1048576: true; the input reads as it did. -/
def fnExactReadDiffUptoRow : OpenClaim := { program := "ytjeafbkejeallaa", sum := "45a59c7f3f376a8bea2cd92447add49dca1328ef07bdbb88dc16e25664952a97", func := "loop.example/g00850/laws.FnExactReadDiff", spec := "fnExactReadDiff", inPlace := ["internal/bytealg.IndexByteString"], unfollowed := true, recurses := true, apart := false, narrowed := true }
def FnExactReadDiffUptoSaid : Prop := fnExactReadDiffUptoRow.holds Try.pinned (OpenSpec.upto fnExactReadDiffSpec)

/-- 'laws.FnExactFillOps', WHERE WHAT IT READS IS OF BULK AT MOST 1048576: true; the input reads as it did. -/
def fnExactFillOpsUptoRow : OpenClaim := { program := "ytjeafbkejeallaa", sum := "45a59c7f3f376a8bea2cd92447add49dca1328ef07bdbb88dc16e25664952a97", func := "loop.example/g00850/laws.FnExactFillOps", spec := "fnExactFillOps", inPlace := ["internal/bytealg.IndexByteString", "internal/abi.NoEscape", "internal/bytealg.MakeNoZero"], unfollowed := true, recurses := true, apart := false, narrowed := true }
def FnExactFillOpsUptoSaid : Prop := fnExactFillOpsUptoRow.holds Try.pinned (OpenSpec.upto fnExactFillOpsSpec)

/-- 'laws.FnExactClearOps', WHERE WHAT IT READS IS OF BULK AT MOST 1048576: true; the input reads as it did. -/
def fnExactClearOpsUptoRow : OpenClaim := { program := "ytjeafbkejeallaa", sum := "45a59c7f3f376a8bea2cd92447add49dca1328ef07bdbb88dc16e25664952a97", func := "loop.example/g00850/laws.FnExactClearOps", spec := "fnExactClearOps", inPlace := ["internal/bytealg.IndexByteString", "internal/bytealg.IndexString"], unfollowed := true, recurses := true, named := ["internal/bytealg.MaxLen"], apart := false, narrowed := true }
def FnExactClearOpsUptoSaid : Prop := fnExactClearOpsUptoRow.holds Try.pinned (OpenSpec.upto fnExactClearOpsSpec)

/-- 'laws.FnExactEntriesIn', WHERE WHAT IT READS IS OF BULK AT MOST 1048576: true; the input reads as it did. -/
def fnExactEntriesInUptoRow : OpenClaim := { program := "ytjeafbkejeallaa", sum := "45a59c7f3f376a8bea2cd92447add49dca1328ef07bdbb88dc16e25664952a97", func := "loop.example/g00850/laws.FnExactEntriesIn", spec := "fnExactEntriesIn", inPlace := ["internal/bytealg.IndexByteString", "internal/bytealg.IndexString"], unfollowed := true, recurses := true, named := ["internal/bytealg.MaxLen"], apart := false, narrowed := true }
def FnExactEntriesInUptoSaid : Prop := fnExactEntriesInUptoRow.holds Try.pinned (OpenSpec.upto fnExactEntriesInSpec)

/-- 'laws.FnExactOpsFor', WHERE WHAT IT READS IS OF BULK AT MOST 1048576: true; the input reads as it did. -/
def fnExactOpsForUptoRow : OpenClaim := { program := "ytjeafbkejeallaa", sum := "45a59c7f3f376a8bea2cd92447add49dca1328ef07bdbb88dc16e25664952a97", func := "loop.example/g00850/laws.FnExactOpsFor", spec := "fnExactOpsFor", inPlace := ["internal/bytealg.IndexByteString", "internal/abi.NoEscape", "internal/bytealg.MakeNoZero"], unfollowed := true, recurses := true, apart := false, narrowed := true }
def FnExactOpsForUptoSaid : Prop := fnExactOpsForUptoRow.holds Try.pinned (OpenSpec.upto fnExactOpsForSpec)

/-- 'laws.FnExactStmtOps', WHERE WHAT IT READS IS OF BULK AT MOST 1048576: true; the input reads as it did. -/
def fnExactStmtOpsUptoRow : OpenClaim := { program := "ytjeafbkejeallaa", sum := "45a59c7f3f376a8bea2cd92447add49dca1328ef07bdbb88dc16e25664952a97", func := "loop.example/g00850/laws.FnExactStmtOps", spec := "fnExactStmtOps", inPlace := ["internal/bytealg.IndexByteString", "internal/abi.NoEscape", "internal/bytealg.MakeNoZero"], unfollowed := true, recurses := true, apart := false, narrowed := true }
def FnExactStmtOpsUptoSaid : Prop := fnExactStmtOpsUptoRow.holds Try.pinned (OpenSpec.upto fnExactStmtOpsSpec)

end Rows
end Go.Proofs.Ytjeafbkejeallaa
