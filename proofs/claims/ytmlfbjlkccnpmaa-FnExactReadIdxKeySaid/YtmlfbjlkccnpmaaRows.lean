/-
  No cell of these rows narrows 'for every input' (looked for: loops, veiled, ifaces, maps, wideKeys, modest, calm, conditions, laid).
  DERIVED. THE GIVEN ROWS OF THIS SEAT. 11 by the template 'for every input the law returns true; each argument reads behind the call as it read before'; 0 by the template 'total and deterministic' (their statements: YtmlfbjlkccnpmaaTotals.lean).
  GIVEN WITH THE SEED: the statements are not yours to turn. If you find one false, say at which input.
  Laid BY PROGRAM, IN A SANDBOX (cutbox-rows.mjs): the forced cells as the released guide's own fill.sh prints them over the translation 3d3f4ec4f2bda51c… (all of the seat's roots in one cut). By AI agents, Wed Nov 11 2026. No macro, syntax, notation, axiom, sorry.
-/
import Derived.Test.YtmlfbjlkccnpmaaChecked
import GoSem.Claim
import GoSem.ClaimJoined
import GoSem.ClaimMapViews
import Derived.JoinedTies
import Derived.KernelRfl
namespace Go.Proofs.Ytmlfbjlkccnpmaa
/- THE CELL 'sum', in the pinned program and in every row, IS THE sha256 OF THE DUMP (.gsa) THAT YtmlfbjlkccnpmaaProg.lean LOADS. Nothing in Lean hashes anything: it is a label: what it is worth is what the hold of that sum in a sandbox is worth. -/
noncomputable def Try.pinned : Pinned := { name := "ytmlfbjlkccnpmaa", sum := "3d3f4ec4f2bda51c0198904f77739b40fadc472420bd24681811e99ec167b255", checked := Try.checked }
namespace Rows
def none {H : Type} : Left H := { results := [], args := [] }

/-- 'laws.FnExactGoodAct': WHATEVER THE INPUT: true; the input reads as it did. -/
def fnExactGoodActSpec : ChangeSpec := { name := "fnExactGoodAct", fn := fun _ => fun
  | [d1, d2] => { results := [.lit (.bool true)], args := [d1, d2] }
  | _ => none }
def fnExactGoodActRow : OpenClaim := { program := "ytmlfbjlkccnpmaa", sum := "3d3f4ec4f2bda51c0198904f77739b40fadc472420bd24681811e99ec167b255", func := "loop.example/g00850/laws.FnExactGoodAct", spec := "fnExactGoodAct", inPlace := ["internal/bytealg.IndexByteString"], unfollowed := true, recurses := true, apart := false }
def FnExactGoodActSaid : Prop := fnExactGoodActRow.holds Try.pinned (OpenSpec.ofChange fnExactGoodActSpec)

/-- ITS FALSE NEIGHBOUR: 'it returns false'. Refute it at one input. -/
def fnExactGoodActWrong : ChangeSpec := { name := "fnExactGoodAct", fn := fun _ => fun
  | [d1, d2] => { results := [.lit (.bool false)], args := [d1, d2] }
  | _ => none }
def FnExactGoodActWrongFalsely : Prop := fnExactGoodActRow.holds Try.pinned (OpenSpec.ofChange fnExactGoodActWrong)

/-- 'laws.FnExactGoodStmt': WHATEVER THE INPUT: true; the input reads as it did. -/
def fnExactGoodStmtSpec : ChangeSpec := { name := "fnExactGoodStmt", fn := fun _ => fun
  | [d1, d2] => { results := [.lit (.bool true)], args := [d1, d2] }
  | _ => none }
def fnExactGoodStmtRow : OpenClaim := { program := "ytmlfbjlkccnpmaa", sum := "3d3f4ec4f2bda51c0198904f77739b40fadc472420bd24681811e99ec167b255", func := "loop.example/g00850/laws.FnExactGoodStmt", spec := "fnExactGoodStmt", inPlace := ["internal/bytealg.IndexByteString"], unfollowed := true, recurses := true, apart := false }
def FnExactGoodStmtSaid : Prop := fnExactGoodStmtRow.holds Try.pinned (OpenSpec.ofChange fnExactGoodStmtSpec)

/-- ITS FALSE NEIGHBOUR: 'it returns false'. Refute it at one input. -/
def fnExactGoodStmtWrong : ChangeSpec := { name := "fnExactGoodStmt", fn := fun _ => fun
  | [d1, d2] => { results := [.lit (.bool false)], args := [d1, d2] }
  | _ => none }
def FnExactGoodStmtWrongFalsely : Prop := fnExactGoodStmtRow.holds Try.pinned (OpenSpec.ofChange fnExactGoodStmtWrong)

/-- 'laws.FnExactGoodDiff': WHATEVER THE INPUT: true; the input reads as it did. -/
def fnExactGoodDiffSpec : ChangeSpec := { name := "fnExactGoodDiff", fn := fun _ => fun
  | [d] => { results := [.lit (.bool true)], args := [d] }
  | _ => none }
def fnExactGoodDiffRow : OpenClaim := { program := "ytmlfbjlkccnpmaa", sum := "3d3f4ec4f2bda51c0198904f77739b40fadc472420bd24681811e99ec167b255", func := "loop.example/g00850/laws.FnExactGoodDiff", spec := "fnExactGoodDiff", inPlace := ["internal/bytealg.IndexByteString"], unfollowed := true, recurses := true, apart := false }
def FnExactGoodDiffSaid : Prop := fnExactGoodDiffRow.holds Try.pinned (OpenSpec.ofChange fnExactGoodDiffSpec)

/-- ITS FALSE NEIGHBOUR: 'it returns false'. Refute it at one input. -/
def fnExactGoodDiffWrong : ChangeSpec := { name := "fnExactGoodDiff", fn := fun _ => fun
  | [d] => { results := [.lit (.bool false)], args := [d] }
  | _ => none }
def FnExactGoodDiffWrongFalsely : Prop := fnExactGoodDiffRow.holds Try.pinned (OpenSpec.ofChange fnExactGoodDiffWrong)

/-- 'laws.FnExactIdxKey': WHATEVER THE INPUT: true; the input reads as it did. -/
def fnExactIdxKeySpec : ChangeSpec := { name := "fnExactIdxKey", fn := fun _ => fun
  | [d1, d2, d3] => { results := [.lit (.bool true)], args := [d1, d2, d3] }
  | _ => none }
def fnExactIdxKeyRow : OpenClaim := { program := "ytmlfbjlkccnpmaa", sum := "3d3f4ec4f2bda51c0198904f77739b40fadc472420bd24681811e99ec167b255", func := "loop.example/g00850/laws.FnExactIdxKey", spec := "fnExactIdxKey", inPlace := ["internal/bytealg.IndexByteString"], unfollowed := true, recurses := true, apart := false }
def FnExactIdxKeySaid : Prop := fnExactIdxKeyRow.holds Try.pinned (OpenSpec.ofChange fnExactIdxKeySpec)

/-- ITS FALSE NEIGHBOUR: 'it returns false'. Refute it at one input. -/
def fnExactIdxKeyWrong : ChangeSpec := { name := "fnExactIdxKey", fn := fun _ => fun
  | [d1, d2, d3] => { results := [.lit (.bool false)], args := [d1, d2, d3] }
  | _ => none }
def FnExactIdxKeyWrongFalsely : Prop := fnExactIdxKeyRow.holds Try.pinned (OpenSpec.ofChange fnExactIdxKeyWrong)

/-- 'laws.FnExactNextTo': WHATEVER THE INPUT: true; the input reads as it did. -/
def fnExactNextToSpec : ChangeSpec := { name := "fnExactNextTo", fn := fun _ => fun
  | [d1, d2] => { results := [.lit (.bool true)], args := [d1, d2] }
  | _ => none }
def fnExactNextToRow : OpenClaim := { program := "ytmlfbjlkccnpmaa", sum := "3d3f4ec4f2bda51c0198904f77739b40fadc472420bd24681811e99ec167b255", func := "loop.example/g00850/laws.FnExactNextTo", spec := "fnExactNextTo", unfollowed := true, recurses := true, apart := false }
def FnExactNextToSaid : Prop := fnExactNextToRow.holds Try.pinned (OpenSpec.ofChange fnExactNextToSpec)

/-- ITS FALSE NEIGHBOUR: 'it returns false'. Refute it at one input. -/
def fnExactNextToWrong : ChangeSpec := { name := "fnExactNextTo", fn := fun _ => fun
  | [d1, d2] => { results := [.lit (.bool false)], args := [d1, d2] }
  | _ => none }
def FnExactNextToWrongFalsely : Prop := fnExactNextToRow.holds Try.pinned (OpenSpec.ofChange fnExactNextToWrong)

/-- 'laws.FnExactPutBack': WHATEVER THE INPUT: true; the input reads as it did. -/
def fnExactPutBackSpec : ChangeSpec := { name := "fnExactPutBack", fn := fun _ => fun
  | [d] => { results := [.lit (.bool true)], args := [d] }
  | _ => none }
def fnExactPutBackRow : OpenClaim := { program := "ytmlfbjlkccnpmaa", sum := "3d3f4ec4f2bda51c0198904f77739b40fadc472420bd24681811e99ec167b255", func := "loop.example/g00850/laws.FnExactPutBack", spec := "fnExactPutBack", inPlace := ["internal/bytealg.IndexByteString"], unfollowed := true, recurses := true, apart := false }
def FnExactPutBackSaid : Prop := fnExactPutBackRow.holds Try.pinned (OpenSpec.ofChange fnExactPutBackSpec)

/-- ITS FALSE NEIGHBOUR: 'it returns false'. Refute it at one input. -/
def fnExactPutBackWrong : ChangeSpec := { name := "fnExactPutBack", fn := fun _ => fun
  | [d] => { results := [.lit (.bool false)], args := [d] }
  | _ => none }
def FnExactPutBackWrongFalsely : Prop := fnExactPutBackRow.holds Try.pinned (OpenSpec.ofChange fnExactPutBackWrong)

/-- 'laws.FnExactSetStage': WHATEVER THE INPUT: true; the input reads as it did. -/
def fnExactSetStageSpec : ChangeSpec := { name := "fnExactSetStage", fn := fun _ => fun
  | [d1, d2, d3] => { results := [.lit (.bool true)], args := [d1, d2, d3] }
  | _ => none }
def fnExactSetStageRow : OpenClaim := { program := "ytmlfbjlkccnpmaa", sum := "3d3f4ec4f2bda51c0198904f77739b40fadc472420bd24681811e99ec167b255", func := "loop.example/g00850/laws.FnExactSetStage", spec := "fnExactSetStage", unfollowed := true, recurses := true, apart := false }
def FnExactSetStageSaid : Prop := fnExactSetStageRow.holds Try.pinned (OpenSpec.ofChange fnExactSetStageSpec)

/-- ITS FALSE NEIGHBOUR: 'it returns false'. Refute it at one input. -/
def fnExactSetStageWrong : ChangeSpec := { name := "fnExactSetStage", fn := fun _ => fun
  | [d1, d2, d3] => { results := [.lit (.bool false)], args := [d1, d2, d3] }
  | _ => none }
def FnExactSetStageWrongFalsely : Prop := fnExactSetStageRow.holds Try.pinned (OpenSpec.ofChange fnExactSetStageWrong)

/-- 'laws.FnExactCopyBytes': WHATEVER THE INPUT: true; the input reads as it did. -/
def fnExactCopyBytesSpec : ChangeSpec := { name := "fnExactCopyBytes", fn := fun _ => fun
  | [d] => { results := [.lit (.bool true)], args := [d] }
  | _ => none }
def fnExactCopyBytesRow : OpenClaim := { program := "ytmlfbjlkccnpmaa", sum := "3d3f4ec4f2bda51c0198904f77739b40fadc472420bd24681811e99ec167b255", func := "loop.example/g00850/laws.FnExactCopyBytes", spec := "fnExactCopyBytes", inPlace := ["internal/bytealg.IndexByteString"], unfollowed := true, recurses := true, apart := false }
def FnExactCopyBytesSaid : Prop := fnExactCopyBytesRow.holds Try.pinned (OpenSpec.ofChange fnExactCopyBytesSpec)

/-- ITS FALSE NEIGHBOUR: 'it returns false'. Refute it at one input. -/
def fnExactCopyBytesWrong : ChangeSpec := { name := "fnExactCopyBytes", fn := fun _ => fun
  | [d] => { results := [.lit (.bool false)], args := [d] }
  | _ => none }
def FnExactCopyBytesWrongFalsely : Prop := fnExactCopyBytesRow.holds Try.pinned (OpenSpec.ofChange fnExactCopyBytesWrong)

/-- 'laws.FnExactWayTo': WHATEVER THE INPUT: true; the input reads as it did. -/
def fnExactWayToSpec : ChangeSpec := { name := "fnExactWayTo", fn := fun _ => fun
  | [d1, d2, d3] => { results := [.lit (.bool true)], args := [d1, d2, d3] }
  | _ => none }
def fnExactWayToRow : OpenClaim := { program := "ytmlfbjlkccnpmaa", sum := "3d3f4ec4f2bda51c0198904f77739b40fadc472420bd24681811e99ec167b255", func := "loop.example/g00850/laws.FnExactWayTo", spec := "fnExactWayTo", unfollowed := true, recurses := true, apart := false }
def FnExactWayToSaid : Prop := fnExactWayToRow.holds Try.pinned (OpenSpec.ofChange fnExactWayToSpec)

/-- ITS FALSE NEIGHBOUR: 'it returns false'. Refute it at one input. -/
def fnExactWayToWrong : ChangeSpec := { name := "fnExactWayTo", fn := fun _ => fun
  | [d1, d2, d3] => { results := [.lit (.bool false)], args := [d1, d2, d3] }
  | _ => none }
def FnExactWayToWrongFalsely : Prop := fnExactWayToRow.holds Try.pinned (OpenSpec.ofChange fnExactWayToWrong)

/-- 'laws.FnExactReadIdxKey': WHATEVER THE INPUT: true; the input reads as it did. -/
def fnExactReadIdxKeySpec : ChangeSpec := { name := "fnExactReadIdxKey", fn := fun _ => fun
  | [d1, d2, d3] => { results := [.lit (.bool true)], args := [d1, d2, d3] }
  | _ => none }
def fnExactReadIdxKeyRow : OpenClaim := { program := "ytmlfbjlkccnpmaa", sum := "3d3f4ec4f2bda51c0198904f77739b40fadc472420bd24681811e99ec167b255", func := "loop.example/g00850/laws.FnExactReadIdxKey", spec := "fnExactReadIdxKey", inPlace := ["internal/bytealg.IndexByteString", "internal/bytealg.IndexString"], unfollowed := true, recurses := true, named := ["internal/bytealg.MaxLen"], apart := false }
def FnExactReadIdxKeySaid : Prop := fnExactReadIdxKeyRow.holds Try.pinned (OpenSpec.ofChange fnExactReadIdxKeySpec)

/-- ITS FALSE NEIGHBOUR: 'it returns false'. Refute it at one input. -/
def fnExactReadIdxKeyWrong : ChangeSpec := { name := "fnExactReadIdxKey", fn := fun _ => fun
  | [d1, d2, d3] => { results := [.lit (.bool false)], args := [d1, d2, d3] }
  | _ => none }
def FnExactReadIdxKeyWrongFalsely : Prop := fnExactReadIdxKeyRow.holds Try.pinned (OpenSpec.ofChange fnExactReadIdxKeyWrong)

/-- 'laws.FnExactGoodShift': WHATEVER THE INPUT: true; the input reads as it did. -/
def fnExactGoodShiftSpec : ChangeSpec := { name := "fnExactGoodShift", fn := fun _ => fun
  | [d] => { results := [.lit (.bool true)], args := [d] }
  | _ => none }
def fnExactGoodShiftRow : OpenClaim := { program := "ytmlfbjlkccnpmaa", sum := "3d3f4ec4f2bda51c0198904f77739b40fadc472420bd24681811e99ec167b255", func := "loop.example/g00850/laws.FnExactGoodShift", spec := "fnExactGoodShift", inPlace := ["internal/bytealg.IndexByteString"], unfollowed := true, recurses := true, apart := false }
def FnExactGoodShiftSaid : Prop := fnExactGoodShiftRow.holds Try.pinned (OpenSpec.ofChange fnExactGoodShiftSpec)

/-- ITS FALSE NEIGHBOUR: 'it returns false'. Refute it at one input. -/
def fnExactGoodShiftWrong : ChangeSpec := { name := "fnExactGoodShift", fn := fun _ => fun
  | [d] => { results := [.lit (.bool false)], args := [d] }
  | _ => none }
def FnExactGoodShiftWrongFalsely : Prop := fnExactGoodShiftRow.holds Try.pinned (OpenSpec.ofChange fnExactGoodShiftWrong)

/- THE SECOND FORM. 'bulk': how many values and letters a reading holds, each counted each time it is reached (what is shared counts as often as it is met; a slice's spare places count too). A statement '..UptoSaid' is the law's where the arguments, and the package variables that the reading takes, are together of bulk at most 1048576: NARROWER than '..Said'. Prove '..Said' where nothing that the law and all that it calls make is longer than what came in: it says more and counts as full. Else prove '..UptoSaid'. A law counts once. -/
mutual
def uptoBulk {H : Type} : DataW H → Nat
  | .lit (.string bytes) => bytes.length + 1
  | .lit _ => 1
  | .nil => 1
  | .ptr d => uptoBulk d + 1
  | .slice elems spare => uptoBulkAll elems + uptoBulkAll spare + 1
  | .agg parts => uptoBulkAll parts + 1
  | .iface _ d => uptoBulk d + 1
  | .map entries => uptoBulkEntries entries + 1
  | .held _ => 1
def uptoBulkAll {H : Type} : List (DataW H) → Nat
  | [] => 0
  | d :: r => uptoBulk d + uptoBulkAll r
def uptoBulkEntries {H : Type} : List (Lit × DataW H) → Nat
  | [] => 0
  | x :: r => uptoBulkEntry x + uptoBulkEntries r
def uptoBulkEntry {H : Type} : Lit × DataW H → Nat
  | (.string bytes, d) => bytes.length + uptoBulk d + 1
  | (_, d) => uptoBulk d + 1
 end
def uptoSmall : (H : Type) → List (DataW H) → Bool := fun _ ds => decide (uptoBulkAll ds ≤ 1048576)
def OpenSpec.upto (s : _root_.Go.ChangeSpec) : _root_.Go.OpenSpec := { _root_.Go.OpenSpec.ofChange s with cond := some uptoSmall }

/-- 'laws.FnExactGoodAct', WHERE WHAT IT READS IS OF BULK AT MOST 1048576: true; the input reads as it did. -/
def fnExactGoodActUptoRow : OpenClaim := { program := "ytmlfbjlkccnpmaa", sum := "3d3f4ec4f2bda51c0198904f77739b40fadc472420bd24681811e99ec167b255", func := "loop.example/g00850/laws.FnExactGoodAct", spec := "fnExactGoodAct", inPlace := ["internal/bytealg.IndexByteString"], unfollowed := true, recurses := true, apart := false, narrowed := true }
def FnExactGoodActUptoSaid : Prop := fnExactGoodActUptoRow.holds Try.pinned (OpenSpec.upto fnExactGoodActSpec)

/-- 'laws.FnExactGoodStmt', WHERE WHAT IT READS IS OF BULK AT MOST 1048576: true; the input reads as it did. -/
def fnExactGoodStmtUptoRow : OpenClaim := { program := "ytmlfbjlkccnpmaa", sum := "3d3f4ec4f2bda51c0198904f77739b40fadc472420bd24681811e99ec167b255", func := "loop.example/g00850/laws.FnExactGoodStmt", spec := "fnExactGoodStmt", inPlace := ["internal/bytealg.IndexByteString"], unfollowed := true, recurses := true, apart := false, narrowed := true }
def FnExactGoodStmtUptoSaid : Prop := fnExactGoodStmtUptoRow.holds Try.pinned (OpenSpec.upto fnExactGoodStmtSpec)

/-- 'laws.FnExactGoodDiff', WHERE WHAT IT READS IS OF BULK AT MOST 1048576: true; the input reads as it did. -/
def fnExactGoodDiffUptoRow : OpenClaim := { program := "ytmlfbjlkccnpmaa", sum := "3d3f4ec4f2bda51c0198904f77739b40fadc472420bd24681811e99ec167b255", func := "loop.example/g00850/laws.FnExactGoodDiff", spec := "fnExactGoodDiff", inPlace := ["internal/bytealg.IndexByteString"], unfollowed := true, recurses := true, apart := false, narrowed := true }
def FnExactGoodDiffUptoSaid : Prop := fnExactGoodDiffUptoRow.holds Try.pinned (OpenSpec.upto fnExactGoodDiffSpec)

/-- 'laws.FnExactIdxKey', WHERE WHAT IT READS IS OF BULK AT MOST 1048576: true; the input reads as it did. -/
def fnExactIdxKeyUptoRow : OpenClaim := { program := "ytmlfbjlkccnpmaa", sum := "3d3f4ec4f2bda51c0198904f77739b40fadc472420bd24681811e99ec167b255", func := "loop.example/g00850/laws.FnExactIdxKey", spec := "fnExactIdxKey", inPlace := ["internal/bytealg.IndexByteString"], unfollowed := true, recurses := true, apart := false, narrowed := true }
def FnExactIdxKeyUptoSaid : Prop := fnExactIdxKeyUptoRow.holds Try.pinned (OpenSpec.upto fnExactIdxKeySpec)

/-- 'laws.FnExactNextTo', WHERE WHAT IT READS IS OF BULK AT MOST 1048576: true; the input reads as it did. -/
def fnExactNextToUptoRow : OpenClaim := { program := "ytmlfbjlkccnpmaa", sum := "3d3f4ec4f2bda51c0198904f77739b40fadc472420bd24681811e99ec167b255", func := "loop.example/g00850/laws.FnExactNextTo", spec := "fnExactNextTo", unfollowed := true, recurses := true, apart := false, narrowed := true }
def FnExactNextToUptoSaid : Prop := fnExactNextToUptoRow.holds Try.pinned (OpenSpec.upto fnExactNextToSpec)

/-- 'laws.FnExactPutBack', WHERE WHAT IT READS IS OF BULK AT MOST 1048576: true; the input reads as it did. -/
def fnExactPutBackUptoRow : OpenClaim := { program := "ytmlfbjlkccnpmaa", sum := "3d3f4ec4f2bda51c0198904f77739b40fadc472420bd24681811e99ec167b255", func := "loop.example/g00850/laws.FnExactPutBack", spec := "fnExactPutBack", inPlace := ["internal/bytealg.IndexByteString"], unfollowed := true, recurses := true, apart := false, narrowed := true }
def FnExactPutBackUptoSaid : Prop := fnExactPutBackUptoRow.holds Try.pinned (OpenSpec.upto fnExactPutBackSpec)

/-- 'laws.FnExactSetStage', WHERE WHAT IT READS IS OF BULK AT MOST 1048576: true; the input reads as it did. -/
def fnExactSetStageUptoRow : OpenClaim := { program := "ytmlfbjlkccnpmaa", sum := "3d3f4ec4f2bda51c0198904f77739b40fadc472420bd24681811e99ec167b255", func := "loop.example/g00850/laws.FnExactSetStage", spec := "fnExactSetStage", unfollowed := true, recurses := true, apart := false, narrowed := true }
def FnExactSetStageUptoSaid : Prop := fnExactSetStageUptoRow.holds Try.pinned (OpenSpec.upto fnExactSetStageSpec)

/-- 'laws.FnExactCopyBytes', WHERE WHAT IT READS IS OF BULK AT MOST 1048576: true; the input reads as it did. -/
def fnExactCopyBytesUptoRow : OpenClaim := { program := "ytmlfbjlkccnpmaa", sum := "3d3f4ec4f2bda51c0198904f77739b40fadc472420bd24681811e99ec167b255", func := "loop.example/g00850/laws.FnExactCopyBytes", spec := "fnExactCopyBytes", inPlace := ["internal/bytealg.IndexByteString"], unfollowed := true, recurses := true, apart := false, narrowed := true }
def FnExactCopyBytesUptoSaid : Prop := fnExactCopyBytesUptoRow.holds Try.pinned (OpenSpec.upto fnExactCopyBytesSpec)

/-- 'laws.FnExactWayTo', WHERE WHAT IT READS IS OF BULK AT MOST 1048576: true; the input reads as it did. -/
def fnExactWayToUptoRow : OpenClaim := { program := "ytmlfbjlkccnpmaa", sum := "3d3f4ec4f2bda51c0198904f77739b40fadc472420bd24681811e99ec167b255", func := "loop.example/g00850/laws.FnExactWayTo", spec := "fnExactWayTo", unfollowed := true, recurses := true, apart := false, narrowed := true }
def FnExactWayToUptoSaid : Prop := fnExactWayToUptoRow.holds Try.pinned (OpenSpec.upto fnExactWayToSpec)

/-- 'laws.FnExactReadIdxKey', WHERE WHAT IT READS IS OF BULK AT MOST 1048576: true; the input reads as it did. -/
def fnExactReadIdxKeyUptoRow : OpenClaim := { program := "ytmlfbjlkccnpmaa", sum := "3d3f4ec4f2bda51c0198904f77739b40fadc472420bd24681811e99ec167b255", func := "loop.example/g00850/laws.FnExactReadIdxKey", spec := "fnExactReadIdxKey", inPlace := ["internal/bytealg.IndexByteString", "internal/bytealg.IndexString"], unfollowed := true, recurses := true, named := ["internal/bytealg.MaxLen"], apart := false, narrowed := true }
def FnExactReadIdxKeyUptoSaid : Prop := fnExactReadIdxKeyUptoRow.holds Try.pinned (OpenSpec.upto fnExactReadIdxKeySpec)

/-- 'laws.FnExactGoodShift', WHERE WHAT IT READS IS OF BULK AT MOST 1048576: true; the input reads as it did. -/
def fnExactGoodShiftUptoRow : OpenClaim := { program := "ytmlfbjlkccnpmaa", sum := "3d3f4ec4f2bda51c0198904f77739b40fadc472420bd24681811e99ec167b255", func := "loop.example/g00850/laws.FnExactGoodShift", spec := "fnExactGoodShift", inPlace := ["internal/bytealg.IndexByteString"], unfollowed := true, recurses := true, apart := false, narrowed := true }
def FnExactGoodShiftUptoSaid : Prop := fnExactGoodShiftUptoRow.holds Try.pinned (OpenSpec.upto fnExactGoodShiftSpec)

end Rows
end Go.Proofs.Ytmlfbjlkccnpmaa
