/-
  No cell of these rows narrows 'for every input' (looked for: loops, veiled, ifaces, maps, wideKeys, modest, calm, conditions, laid).
  DERIVED. THE GIVEN ROWS OF THIS SEAT. 8 by the template 'for every input the law returns true; each argument reads behind the call as it read before'; 0 by the template 'total and deterministic' (their statements: YtdbobbmagmcpnaaTotals.lean).
  GIVEN WITH THE SEED: the statements are not yours to turn. If you find one false, say at which input.
  Laid BY PROGRAM, IN A SANDBOX (cutbox-rows.mjs): the forced cells as the released guide's own fill.sh prints them over the translation d06989a005a29d70… (all of the seat's roots in one cut). By AI agents, Wed Nov 11 2026. No macro, syntax, notation, axiom, sorry.
-/
import Derived.Test.YtdbobbmagmcpnaaChecked
import GoSem.Claim
import GoSem.ClaimJoined
import GoSem.ClaimMapViews
import Derived.JoinedTies
import Derived.KernelRfl
namespace Go.Proofs.Ytdbobbmagmcpnaa
/- THE CELL 'sum', in the pinned program and in every row, IS THE sha256 OF THE DUMP (.gsa) THAT YtdbobbmagmcpnaaProg.lean LOADS. Nothing in Lean hashes anything: it is a label: what it is worth is what the hold of that sum in a sandbox is worth. -/
noncomputable def Try.pinned : Pinned := { name := "ytdbobbmagmcpnaa", sum := "d06989a005a29d70ff9029d6d6ecbcc1e9dd5908332f73a08b82ab06c1774d23", checked := Try.checked }
namespace Rows
def none {H : Type} : Left H := { results := [], args := [] }

/-- 'laws.FnExactRowWrite': WHATEVER THE INPUT: true; the input reads as it did. -/
def fnExactRowWriteSpec : ChangeSpec := { name := "fnExactRowWrite", fn := fun _ => fun
  | [d1, d2] => { results := [.lit (.bool true)], args := [d1, d2] }
  | _ => none }
def fnExactRowWriteRow : OpenClaim := { program := "ytdbobbmagmcpnaa", sum := "d06989a005a29d70ff9029d6d6ecbcc1e9dd5908332f73a08b82ab06c1774d23", func := "loop.example/g00850/laws.FnExactRowWrite", spec := "fnExactRowWrite", inPlace := ["internal/bytealg.IndexByteString", "internal/abi.NoEscape", "internal/bytealg.MakeNoZero"], unfollowed := true, recurses := true, apart := false }
def FnExactRowWriteSaid : Prop := fnExactRowWriteRow.holds Try.pinned (OpenSpec.ofChange fnExactRowWriteSpec)

/-- ITS FALSE NEIGHBOUR: 'it returns false'. Refute it at one input. -/
def fnExactRowWriteWrong : ChangeSpec := { name := "fnExactRowWrite", fn := fun _ => fun
  | [d1, d2] => { results := [.lit (.bool false)], args := [d1, d2] }
  | _ => none }
def FnExactRowWriteWrongFalsely : Prop := fnExactRowWriteRow.holds Try.pinned (OpenSpec.ofChange fnExactRowWriteWrong)

/-- 'laws.FnExactNewShift': WHATEVER THE INPUT: true; the input reads as it did. -/
def fnExactNewShiftSpec : ChangeSpec := { name := "fnExactNewShift", fn := fun _ => fun
  | [d1, d2, d3, d4, d5] => { results := [.lit (.bool true)], args := [d1, d2, d3, d4, d5] }
  | _ => none }
def fnExactNewShiftRow : OpenClaim := { program := "ytdbobbmagmcpnaa", sum := "d06989a005a29d70ff9029d6d6ecbcc1e9dd5908332f73a08b82ab06c1774d23", func := "loop.example/g00850/laws.FnExactNewShift", spec := "fnExactNewShift", inPlace := ["internal/bytealg.IndexByteString"], unfollowed := true, recurses := true, apart := false }
def FnExactNewShiftSaid : Prop := fnExactNewShiftRow.holds Try.pinned (OpenSpec.ofChange fnExactNewShiftSpec)

/-- ITS FALSE NEIGHBOUR: 'it returns false'. Refute it at one input. -/
def fnExactNewShiftWrong : ChangeSpec := { name := "fnExactNewShift", fn := fun _ => fun
  | [d1, d2, d3, d4, d5] => { results := [.lit (.bool false)], args := [d1, d2, d3, d4, d5] }
  | _ => none }
def FnExactNewShiftWrongFalsely : Prop := fnExactNewShiftRow.holds Try.pinned (OpenSpec.ofChange fnExactNewShiftWrong)

/-- 'laws.FnExactPutBack': WHATEVER THE INPUT: true; the input reads as it did. -/
def fnExactPutBackSpec : ChangeSpec := { name := "fnExactPutBack", fn := fun _ => fun
  | [d] => { results := [.lit (.bool true)], args := [d] }
  | _ => none }
def fnExactPutBackRow : OpenClaim := { program := "ytdbobbmagmcpnaa", sum := "d06989a005a29d70ff9029d6d6ecbcc1e9dd5908332f73a08b82ab06c1774d23", func := "loop.example/g00850/laws.FnExactPutBack", spec := "fnExactPutBack", inPlace := ["internal/bytealg.IndexByteString"], unfollowed := true, recurses := true, apart := false }
def FnExactPutBackSaid : Prop := fnExactPutBackRow.holds Try.pinned (OpenSpec.ofChange fnExactPutBackSpec)

/-- ITS FALSE NEIGHBOUR: 'it returns false'. Refute it at one input. -/
def fnExactPutBackWrong : ChangeSpec := { name := "fnExactPutBack", fn := fun _ => fun
  | [d] => { results := [.lit (.bool false)], args := [d] }
  | _ => none }
def FnExactPutBackWrongFalsely : Prop := fnExactPutBackRow.holds Try.pinned (OpenSpec.ofChange fnExactPutBackWrong)

/-- 'laws.FnExactWayTo': WHATEVER THE INPUT: true; the input reads as it did. -/
def fnExactWayToSpec : ChangeSpec := { name := "fnExactWayTo", fn := fun _ => fun
  | [d1, d2, d3] => { results := [.lit (.bool true)], args := [d1, d2, d3] }
  | _ => none }
def fnExactWayToRow : OpenClaim := { program := "ytdbobbmagmcpnaa", sum := "d06989a005a29d70ff9029d6d6ecbcc1e9dd5908332f73a08b82ab06c1774d23", func := "loop.example/g00850/laws.FnExactWayTo", spec := "fnExactWayTo", unfollowed := true, recurses := true, apart := false }
def FnExactWayToSaid : Prop := fnExactWayToRow.holds Try.pinned (OpenSpec.ofChange fnExactWayToSpec)

/-- ITS FALSE NEIGHBOUR: 'it returns false'. Refute it at one input. -/
def fnExactWayToWrong : ChangeSpec := { name := "fnExactWayTo", fn := fun _ => fun
  | [d1, d2, d3] => { results := [.lit (.bool false)], args := [d1, d2, d3] }
  | _ => none }
def FnExactWayToWrongFalsely : Prop := fnExactWayToRow.holds Try.pinned (OpenSpec.ofChange fnExactWayToWrong)

/-- 'laws.FnExactJoinDiffs': WHATEVER THE INPUT: true; the input reads as it did. -/
def fnExactJoinDiffsSpec : ChangeSpec := { name := "fnExactJoinDiffs", fn := fun _ => fun
  | [d1, d2] => { results := [.lit (.bool true)], args := [d1, d2] }
  | _ => none }
def fnExactJoinDiffsRow : OpenClaim := { program := "ytdbobbmagmcpnaa", sum := "d06989a005a29d70ff9029d6d6ecbcc1e9dd5908332f73a08b82ab06c1774d23", func := "loop.example/g00850/laws.FnExactJoinDiffs", spec := "fnExactJoinDiffs", inPlace := ["internal/bytealg.IndexByteString"], unfollowed := true, recurses := true, apart := false }
def FnExactJoinDiffsSaid : Prop := fnExactJoinDiffsRow.holds Try.pinned (OpenSpec.ofChange fnExactJoinDiffsSpec)

/-- ITS FALSE NEIGHBOUR: 'it returns false'. Refute it at one input. -/
def fnExactJoinDiffsWrong : ChangeSpec := { name := "fnExactJoinDiffs", fn := fun _ => fun
  | [d1, d2] => { results := [.lit (.bool false)], args := [d1, d2] }
  | _ => none }
def FnExactJoinDiffsWrongFalsely : Prop := fnExactJoinDiffsRow.holds Try.pinned (OpenSpec.ofChange fnExactJoinDiffsWrong)

/-- 'laws.FnExactReadCopy': WHATEVER THE INPUT: true; the input reads as it did. -/
def fnExactReadCopySpec : ChangeSpec := { name := "fnExactReadCopy", fn := fun _ => fun
  | [d] => { results := [.lit (.bool true)], args := [d] }
  | _ => none }
def fnExactReadCopyRow : OpenClaim := { program := "ytdbobbmagmcpnaa", sum := "d06989a005a29d70ff9029d6d6ecbcc1e9dd5908332f73a08b82ab06c1774d23", func := "loop.example/g00850/laws.FnExactReadCopy", spec := "fnExactReadCopy", inPlace := ["internal/bytealg.IndexByteString"], unfollowed := true, recurses := true, apart := false }
def FnExactReadCopySaid : Prop := fnExactReadCopyRow.holds Try.pinned (OpenSpec.ofChange fnExactReadCopySpec)

/-- ITS FALSE NEIGHBOUR: 'it returns false'. Refute it at one input. -/
def fnExactReadCopyWrong : ChangeSpec := { name := "fnExactReadCopy", fn := fun _ => fun
  | [d] => { results := [.lit (.bool false)], args := [d] }
  | _ => none }
def FnExactReadCopyWrongFalsely : Prop := fnExactReadCopyRow.holds Try.pinned (OpenSpec.ofChange fnExactReadCopyWrong)

/-- 'laws.FnExactCopyAt': WHATEVER THE INPUT: true; the input reads as it did. -/
def fnExactCopyAtSpec : ChangeSpec := { name := "fnExactCopyAt", fn := fun _ => fun
  | [d1, d2] => { results := [.lit (.bool true)], args := [d1, d2] }
  | _ => none }
def fnExactCopyAtRow : OpenClaim := { program := "ytdbobbmagmcpnaa", sum := "d06989a005a29d70ff9029d6d6ecbcc1e9dd5908332f73a08b82ab06c1774d23", func := "loop.example/g00850/laws.FnExactCopyAt", spec := "fnExactCopyAt", inPlace := ["internal/bytealg.IndexByteString"], unfollowed := true, recurses := true, apart := false }
def FnExactCopyAtSaid : Prop := fnExactCopyAtRow.holds Try.pinned (OpenSpec.ofChange fnExactCopyAtSpec)

/-- ITS FALSE NEIGHBOUR: 'it returns false'. Refute it at one input. -/
def fnExactCopyAtWrong : ChangeSpec := { name := "fnExactCopyAt", fn := fun _ => fun
  | [d1, d2] => { results := [.lit (.bool false)], args := [d1, d2] }
  | _ => none }
def FnExactCopyAtWrongFalsely : Prop := fnExactCopyAtRow.holds Try.pinned (OpenSpec.ofChange fnExactCopyAtWrong)

/-- 'laws.FnExactReadDiff': WHATEVER THE INPUT: true; the input reads as it did. -/
def fnExactReadDiffSpec : ChangeSpec := { name := "fnExactReadDiff", fn := fun _ => fun
  | [d] => { results := [.lit (.bool true)], args := [d] }
  | _ => none }
def fnExactReadDiffRow : OpenClaim := { program := "ytdbobbmagmcpnaa", sum := "d06989a005a29d70ff9029d6d6ecbcc1e9dd5908332f73a08b82ab06c1774d23", func := "loop.example/g00850/laws.FnExactReadDiff", spec := "fnExactReadDiff", inPlace := ["internal/bytealg.IndexByteString"], unfollowed := true, recurses := true, apart := false }
def FnExactReadDiffSaid : Prop := fnExactReadDiffRow.holds Try.pinned (OpenSpec.ofChange fnExactReadDiffSpec)

/-- ITS FALSE NEIGHBOUR: 'it returns false'. Refute it at one input. -/
def fnExactReadDiffWrong : ChangeSpec := { name := "fnExactReadDiff", fn := fun _ => fun
  | [d] => { results := [.lit (.bool false)], args := [d] }
  | _ => none }
def FnExactReadDiffWrongFalsely : Prop := fnExactReadDiffRow.holds Try.pinned (OpenSpec.ofChange fnExactReadDiffWrong)

/- THE SECOND FORM. 'bulk': how many values and letters a reading holds, each counted each time it is reached (what is shared counts as often as it is met; a slice's spare places count too). A statement '..UptoSaid' is the law's where the arguments, and the package variables that the reading takes, are together of bulk at most 1048576: NARROWER than '..Said'. Prove '..Said' where nothing that the law and all that it calls make is longer than what came in: it says more and counts as full. Else prove '..UptoSaid'. A law counts once. -/
mutual
def uptoBulk {H : Type} : DataW H → Nat
  | .lit (.string bytes) => bytes.length + 1
  | .lit _ => 1
  | .nil => 1
  | .ptr d => uptoBulk d + 1
  | .slice elems spare => uptoBulkAll elems + uptoBulkAll spare + 1
  | .agg parts => uptoBulkAll parts + 1
  | .iface _ d => uptoBulk d + 1
  | .map entries => uptoBulkEntries entries + 1
  | .held _ => 1
def uptoBulkAll {H : Type} : List (DataW H) → Nat
  | [] => 0
  | d :: r => uptoBulk d + uptoBulkAll r
def uptoBulkEntries {H : Type} : List (Lit × DataW H) → Nat
  | [] => 0
  | x :: r => uptoBulkEntry x + uptoBulkEntries r
def uptoBulkEntry {H : Type} : Lit × DataW H → Nat
  | (.string bytes, d) => bytes.length + uptoBulk d + 1
  | (_, d) => uptoBulk d + 1
 end
def uptoSmall : (H : Type) → List (DataW H) → Bool := fun _ ds => decide (uptoBulkAll ds ≤ 1048576)
def OpenSpec.upto (s : _root_.Go.ChangeSpec) : _root_.Go.OpenSpec := { _root_.Go.OpenSpec.ofChange s with cond := some uptoSmall }

/-- 'laws.FnExactRowWrite', WHERE WHAT IT READS IS OF BULK AT MOST 1048576: true; the input reads as it did. -/
def fnExactRowWriteUptoRow : OpenClaim := { program := "ytdbobbmagmcpnaa", sum := "d06989a005a29d70ff9029d6d6ecbcc1e9dd5908332f73a08b82ab06c1774d23", func := "loop.example/g00850/laws.FnExactRowWrite", spec := "fnExactRowWrite", inPlace := ["internal/bytealg.IndexByteString", "internal/abi.NoEscape", "internal/bytealg.MakeNoZero"], unfollowed := true, recurses := true, apart := false, narrowed := true }
def FnExactRowWriteUptoSaid : Prop := fnExactRowWriteUptoRow.holds Try.pinned (OpenSpec.upto fnExactRowWriteSpec)

/-- 'laws.FnExactNewShift', WHERE WHAT IT READS IS OF BULK AT MOST 1048576: true; the input reads as it did. -/
def fnExactNewShiftUptoRow : OpenClaim := { program := "ytdbobbmagmcpnaa", sum := "d06989a005a29d70ff9029d6d6ecbcc1e9dd5908332f73a08b82ab06c1774d23", func := "loop.example/g00850/laws.FnExactNewShift", spec := "fnExactNewShift", inPlace := ["internal/bytealg.IndexByteString"], unfollowed := true, recurses := true, apart := false, narrowed := true }
def FnExactNewShiftUptoSaid : Prop := fnExactNewShiftUptoRow.holds Try.pinned (OpenSpec.upto fnExactNewShiftSpec)

/-- 'laws.FnExactPutBack', WHERE WHAT IT READS IS OF BULK AT MOST 1048576: true; the input reads as it did. -/
def fnExactPutBackUptoRow : OpenClaim := { program := "ytdbobbmagmcpnaa", sum := "d06989a005a29d70ff9029d6d6ecbcc1e9dd5908332f73a08b82ab06c1774d23", func := "loop.example/g00850/laws.FnExactPutBack", spec := "fnExactPutBack", inPlace := ["internal/bytealg.IndexByteString"], unfollowed := true, recurses := true, apart := false, narrowed := true }
def FnExactPutBackUptoSaid : Prop := fnExactPutBackUptoRow.holds Try.pinned (OpenSpec.upto fnExactPutBackSpec)

/-- 'laws.FnExactWayTo', WHERE WHAT IT READS IS OF BULK AT MOST 1048576: true; the input reads as it did. -/
def fnExactWayToUptoRow : OpenClaim := { program := "ytdbobbmagmcpnaa", sum := "d06989a005a29d70ff9029d6d6ecbcc1e9dd5908332f73a08b82ab06c1774d23", func := "loop.example/g00850/laws.FnExactWayTo", spec := "fnExactWayTo", unfollowed := true, recurses := true, apart := false, narrowed := true }
def FnExactWayToUptoSaid : Prop := fnExactWayToUptoRow.holds Try.pinned (OpenSpec.upto fnExactWayToSpec)

/-- 'laws.FnExactJoinDiffs', WHERE WHAT IT READS IS OF BULK AT MOST 1048576: true; the input reads as it did. -/
def fnExactJoinDiffsUptoRow : OpenClaim := { program := "ytdbobbmagmcpnaa", sum := "d06989a005a29d70ff9029d6d6ecbcc1e9dd5908332f73a08b82ab06c1774d23", func := "loop.example/g00850/laws.FnExactJoinDiffs", spec := "fnExactJoinDiffs", inPlace := ["internal/bytealg.IndexByteString"], unfollowed := true, recurses := true, apart := false, narrowed := true }
def FnExactJoinDiffsUptoSaid : Prop := fnExactJoinDiffsUptoRow.holds Try.pinned (OpenSpec.upto fnExactJoinDiffsSpec)

/-- 'laws.FnExactReadCopy', WHERE WHAT IT READS IS OF BULK AT MOST 1048576: true; the input reads as it did. -/
def fnExactReadCopyUptoRow : OpenClaim := { program := "ytdbobbmagmcpnaa", sum := "d06989a005a29d70ff9029d6d6ecbcc1e9dd5908332f73a08b82ab06c1774d23", func := "loop.example/g00850/laws.FnExactReadCopy", spec := "fnExactReadCopy", inPlace := ["internal/bytealg.IndexByteString"], unfollowed := true, recurses := true, apart := false, narrowed := true }
def FnExactReadCopyUptoSaid : Prop := fnExactReadCopyUptoRow.holds Try.pinned (OpenSpec.upto fnExactReadCopySpec)

/-- 'laws.FnExactCopyAt', WHERE WHAT IT READS IS OF BULK AT MOST 1048576: true; the input reads as it did. -/
def fnExactCopyAtUptoRow : OpenClaim := { program := "ytdbobbmagmcpnaa", sum := "d06989a005a29d70ff9029d6d6ecbcc1e9dd5908332f73a08b82ab06c1774d23", func := "loop.example/g00850/laws.FnExactCopyAt", spec := "fnExactCopyAt", inPlace := ["internal/bytealg.IndexByteString"], unfollowed := true, recurses := true, apart := false, narrowed := true }
def FnExactCopyAtUptoSaid : Prop := fnExactCopyAtUptoRow.holds Try.pinned (OpenSpec.upto fnExactCopyAtSpec)

/-- 'laws.FnExactReadDiff', WHERE WHAT IT READS IS OF BULK AT MOST 1048576: true; the input reads as it did. -/
def fnExactReadDiffUptoRow : OpenClaim := { program := "ytdbobbmagmcpnaa", sum := "d06989a005a29d70ff9029d6d6ecbcc1e9dd5908332f73a08b82ab06c1774d23", func := "loop.example/g00850/laws.FnExactReadDiff", spec := "fnExactReadDiff", inPlace := ["internal/bytealg.IndexByteString"], unfollowed := true, recurses := true, apart := false, narrowed := true }
def FnExactReadDiffUptoSaid : Prop := fnExactReadDiffUptoRow.holds Try.pinned (OpenSpec.upto fnExactReadDiffSpec)

end Rows
end Go.Proofs.Ytdbobbmagmcpnaa
