/-
  No cell of these rows narrows 'for every input' (looked for: loops, veiled, ifaces, maps, wideKeys, modest, calm, conditions, laid).
  DERIVED. THE GIVEN ROWS OF THIS SEAT. 3 by the template 'for every input the law returns true; each argument reads behind the call as it read before'; 0 by the template 'total and deterministic' (their statements: YtfmepgbpbbneaaaGreatTotals.lean).
  GIVEN WITH THE SEED: the statements are not yours to turn. If you find one false, say at which input.
  Laid BY PROGRAM, IN A SANDBOX (cutbox-rows.mjs): the forced cells as the released guide's own fill.sh prints them over the translation 3ca836d79a38bddc… (all of the seat's roots in one cut). By AI agents, Wed Nov 11 2026. No macro, syntax, notation, axiom, sorry.
-/
import Derived.Test.YtfmepgbpbbneaaaGreatChecked
import GoSem.Claim
import GoSem.ClaimJoined
import GoSem.ClaimMapViews
import Derived.JoinedTies
import Derived.KernelRfl
namespace Go.Proofs.YtfmepgbpbbneaaaGreat
/- THE CELL 'sum', in the pinned program and in every row, IS THE sha256 OF THE DUMP (.gsa) THAT YtfmepgbpbbneaaaGreatProg.lean LOADS. Nothing in Lean hashes anything: it is a label: what it is worth is what the hold of that sum in a sandbox is worth. -/
noncomputable def Tryz.pinned : Pinned := { name := "ytfmepgbpbbneaaagreat", sum := "3ca836d79a38bddcf08c78cae723fbdad623e61867661a8b8717553bed68c07c", checked := Tryz.checked }
namespace Rows
def none {H : Type} : Left H := { results := [], args := [] }

/-- 'laws.FnExactGoodShiftAct': WHATEVER THE INPUT: true; the input reads as it did. -/
def fnExactGoodShiftActSpec : ChangeSpec := { name := "fnExactGoodShiftAct", fn := fun _ => fun
  | [d1, d2] => { results := [.lit (.bool true)], args := [d1, d2] }
  | _ => none }
def fnExactGoodShiftActRow : OpenClaim := { program := "ytfmepgbpbbneaaagreat", sum := "3ca836d79a38bddcf08c78cae723fbdad623e61867661a8b8717553bed68c07c", func := "loop.example/g00850/laws.FnExactGoodShiftAct", spec := "fnExactGoodShiftAct", inPlace := ["internal/bytealg.IndexByteString"], unfollowed := true, recurses := true, apart := false }
def FnExactGoodShiftActSaid : Prop := fnExactGoodShiftActRow.holds Tryz.pinned (OpenSpec.ofChange fnExactGoodShiftActSpec)

/-- ITS FALSE NEIGHBOUR: 'it returns false'. Refute it at one input. -/
def fnExactGoodShiftActWrong : ChangeSpec := { name := "fnExactGoodShiftAct", fn := fun _ => fun
  | [d1, d2] => { results := [.lit (.bool false)], args := [d1, d2] }
  | _ => none }
def FnExactGoodShiftActWrongFalsely : Prop := fnExactGoodShiftActRow.holds Tryz.pinned (OpenSpec.ofChange fnExactGoodShiftActWrong)

/-- 'laws.FnExactGoodWorkAct': WHATEVER THE INPUT: true; the input reads as it did. -/
def fnExactGoodWorkActSpec : ChangeSpec := { name := "fnExactGoodWorkAct", fn := fun _ => fun
  | [d1, d2] => { results := [.lit (.bool true)], args := [d1, d2] }
  | _ => none }
def fnExactGoodWorkActRow : OpenClaim := { program := "ytfmepgbpbbneaaagreat", sum := "3ca836d79a38bddcf08c78cae723fbdad623e61867661a8b8717553bed68c07c", func := "loop.example/g00850/laws.FnExactGoodWorkAct", spec := "fnExactGoodWorkAct", inPlace := ["internal/bytealg.IndexByteString"], unfollowed := true, recurses := true, apart := false }
def FnExactGoodWorkActSaid : Prop := fnExactGoodWorkActRow.holds Tryz.pinned (OpenSpec.ofChange fnExactGoodWorkActSpec)

/-- ITS FALSE NEIGHBOUR: 'it returns false'. Refute it at one input. -/
def fnExactGoodWorkActWrong : ChangeSpec := { name := "fnExactGoodWorkAct", fn := fun _ => fun
  | [d1, d2] => { results := [.lit (.bool false)], args := [d1, d2] }
  | _ => none }
def FnExactGoodWorkActWrongFalsely : Prop := fnExactGoodWorkActRow.holds Tryz.pinned (OpenSpec.ofChange fnExactGoodWorkActWrong)

/-- 'laws.FnExactIsCleared': WHATEVER THE INPUT: true; the input reads as it did. -/
def fnExactIsClearedSpec : ChangeSpec := { name := "fnExactIsCleared", fn := fun _ => fun
  | [d] => { results := [.lit (.bool true)], args := [d] }
  | _ => none }
def fnExactIsClearedRow : OpenClaim := { program := "ytfmepgbpbbneaaagreat", sum := "3ca836d79a38bddcf08c78cae723fbdad623e61867661a8b8717553bed68c07c", func := "loop.example/g00850/laws.FnExactIsCleared", spec := "fnExactIsCleared", inPlace := ["internal/bytealg.IndexByteString", "internal/bytealg.IndexString"], unfollowed := true, recurses := true, named := ["internal/bytealg.MaxLen"], apart := false }
def FnExactIsClearedSaid : Prop := fnExactIsClearedRow.holds Tryz.pinned (OpenSpec.ofChange fnExactIsClearedSpec)

/-- ITS FALSE NEIGHBOUR: 'it returns false'. Refute it at one input. -/
def fnExactIsClearedWrong : ChangeSpec := { name := "fnExactIsCleared", fn := fun _ => fun
  | [d] => { results := [.lit (.bool false)], args := [d] }
  | _ => none }
def FnExactIsClearedWrongFalsely : Prop := fnExactIsClearedRow.holds Tryz.pinned (OpenSpec.ofChange fnExactIsClearedWrong)

/- THE SECOND FORM. 'bulk': how many values and letters a reading holds, each counted each time it is reached (what is shared counts as often as it is met; a slice's spare places count too). A statement '..UptoSaid' is the law's where the arguments, and the package variables that the reading takes, are together of bulk at most 1048576: NARROWER than '..Said'. Prove '..Said' where nothing that the law and all that it calls make is longer than what came in: it says more and counts as full. Else prove '..UptoSaid'. A law counts once. -/
mutual
def uptoBulk {H : Type} : DataW H → Nat
  | .lit (.string bytes) => bytes.length + 1
  | .lit _ => 1
  | .nil => 1
  | .ptr d => uptoBulk d + 1
  | .slice elems spare => uptoBulkAll elems + uptoBulkAll spare + 1
  | .agg parts => uptoBulkAll parts + 1
  | .iface _ d => uptoBulk d + 1
  | .map entries => uptoBulkEntries entries + 1
  | .held _ => 1
def uptoBulkAll {H : Type} : List (DataW H) → Nat
  | [] => 0
  | d :: r => uptoBulk d + uptoBulkAll r
def uptoBulkEntries {H : Type} : List (Lit × DataW H) → Nat
  | [] => 0
  | x :: r => uptoBulkEntry x + uptoBulkEntries r
def uptoBulkEntry {H : Type} : Lit × DataW H → Nat
  | (.string bytes, d) => bytes.length + uptoBulk d + 1
  | (_, d) => uptoBulk d + 1
 end
def uptoSmall : (H : Type) → List (DataW H) → Bool := fun _ ds => decide (uptoBulkAll ds ≤ 1048576)
def OpenSpec.upto (s : _root_.Go.ChangeSpec) : _root_.Go.OpenSpec := { _root_.Go.OpenSpec.ofChange s with cond := some uptoSmall }

/-- 'laws.FnExactGoodShiftAct', WHERE WHAT IT READS IS OF BULK AT MOST 1048576: true; the input reads as it did. -/
def fnExactGoodShiftActUptoRow : OpenClaim := { program := "ytfmepgbpbbneaaagreat", sum := "3ca836d79a38bddcf08c78cae723fbdad623e61867661a8b8717553bed68c07c", func := "loop.example/g00850/laws.FnExactGoodShiftAct", spec := "fnExactGoodShiftAct", inPlace := ["internal/bytealg.IndexByteString"], unfollowed := true, recurses := true, apart := false, narrowed := true }
def FnExactGoodShiftActUptoSaid : Prop := fnExactGoodShiftActUptoRow.holds Tryz.pinned (OpenSpec.upto fnExactGoodShiftActSpec)

/-- 'laws.FnExactGoodWorkAct', WHERE WHAT IT READS IS OF BULK AT MOST 1048576: true; the input reads as it did. -/
def fnExactGoodWorkActUptoRow : OpenClaim := { program := "ytfmepgbpbbneaaagreat", sum := "3ca836d79a38bddcf08c78cae723fbdad623e61867661a8b8717553bed68c07c", func := "loop.example/g00850/laws.FnExactGoodWorkAct", spec := "fnExactGoodWorkAct", inPlace := ["internal/bytealg.IndexByteString"], unfollowed := true, recurses := true, apart := false, narrowed := true }
def FnExactGoodWorkActUptoSaid : Prop := fnExactGoodWorkActUptoRow.holds Tryz.pinned (OpenSpec.upto fnExactGoodWorkActSpec)

/-- 'laws.FnExactIsCleared', WHERE WHAT IT READS IS OF BULK AT MOST 1048576: true; the input reads as it did. -/
def fnExactIsClearedUptoRow : OpenClaim := { program := "ytfmepgbpbbneaaagreat", sum := "3ca836d79a38bddcf08c78cae723fbdad623e61867661a8b8717553bed68c07c", func := "loop.example/g00850/laws.FnExactIsCleared", spec := "fnExactIsCleared", inPlace := ["internal/bytealg.IndexByteString", "internal/bytealg.IndexString"], unfollowed := true, recurses := true, named := ["internal/bytealg.MaxLen"], apart := false, narrowed := true }
def FnExactIsClearedUptoSaid : Prop := fnExactIsClearedUptoRow.holds Tryz.pinned (OpenSpec.upto fnExactIsClearedSpec)

end Rows
end Go.Proofs.YtfmepgbpbbneaaaGreat
