/-
  No cell of these rows narrows 'for every input' (looked for: loops, veiled, ifaces, maps, wideKeys, modest, calm, conditions, laid).
  DERIVED. THE GIVEN ROWS OF THIS SEAT. 10 by the template 'for every input the law returns true; each argument reads behind the call as it read before'; 0 by the template 'total and deterministic' (their statements: YtnfjabkdlkejkaaTotals.lean).
  GIVEN WITH THE SEED: the statements are not yours to turn. If you find one false, say at which input.
  Laid BY PROGRAM, IN A SANDBOX (cutbox-rows.mjs): the forced cells as the released guide's own fill.sh prints them over the translation ac96b0344c3e9ca6… (all of the seat's roots in one cut). By AI agents, Wed Nov 11 2026. No macro, syntax, notation, axiom, sorry.
-/
import Derived.Test.YtnfjabkdlkejkaaChecked
import GoSem.Claim
import GoSem.ClaimJoined
import GoSem.ClaimMapViews
import Derived.JoinedTies
import Derived.KernelRfl
namespace Go.Proofs.Ytnfjabkdlkejkaa
/- THE CELL 'sum', in the pinned program and in every row, IS THE sha256 OF THE DUMP (.gsa) THAT YtnfjabkdlkejkaaProg.lean LOADS. Nothing in Lean hashes anything: it is a label: what it is worth is what the hold of that sum in a sandbox is worth. -/
noncomputable def Try.pinned : Pinned := { name := "ytnfjabkdlkejkaa", sum := "ac96b0344c3e9ca6478e0824f5c6b1b4a0a5fb805faae82601bfc1ac2c34df8b", checked := Try.checked }
namespace Rows
def none {H : Type} : Left H := { results := [], args := [] }

/-- 'laws.FnExactPowersAt': WHATEVER THE INPUT: true; the input reads as it did. -/
def fnExactPowersAtSpec : ChangeSpec := { name := "fnExactPowersAt", fn := fun _ => fun
  | [d] => { results := [.lit (.bool true)], args := [d] }
  | _ => none }
def fnExactPowersAtRow : OpenClaim := { program := "ytnfjabkdlkejkaa", sum := "ac96b0344c3e9ca6478e0824f5c6b1b4a0a5fb805faae82601bfc1ac2c34df8b", func := "loop.example/g00850/laws.FnExactPowersAt", spec := "fnExactPowersAt", apart := false }
def FnExactPowersAtSaid : Prop := fnExactPowersAtRow.holds Try.pinned (OpenSpec.ofChange fnExactPowersAtSpec)

/-- ITS FALSE NEIGHBOUR: 'it returns false'. Refute it at one input. -/
def fnExactPowersAtWrong : ChangeSpec := { name := "fnExactPowersAt", fn := fun _ => fun
  | [d] => { results := [.lit (.bool false)], args := [d] }
  | _ => none }
def FnExactPowersAtWrongFalsely : Prop := fnExactPowersAtRow.holds Try.pinned (OpenSpec.ofChange fnExactPowersAtWrong)

/-- 'laws.FnExactGoodFill': WHATEVER THE INPUT: true; the input reads as it did. -/
def fnExactGoodFillSpec : ChangeSpec := { name := "fnExactGoodFill", fn := fun _ => fun
  | [d] => { results := [.lit (.bool true)], args := [d] }
  | _ => none }
def fnExactGoodFillRow : OpenClaim := { program := "ytnfjabkdlkejkaa", sum := "ac96b0344c3e9ca6478e0824f5c6b1b4a0a5fb805faae82601bfc1ac2c34df8b", func := "loop.example/g00850/laws.FnExactGoodFill", spec := "fnExactGoodFill", inPlace := ["internal/bytealg.IndexByteString"], apart := false }
def FnExactGoodFillSaid : Prop := fnExactGoodFillRow.holds Try.pinned (OpenSpec.ofChange fnExactGoodFillSpec)

/-- ITS FALSE NEIGHBOUR: 'it returns false'. Refute it at one input. -/
def fnExactGoodFillWrong : ChangeSpec := { name := "fnExactGoodFill", fn := fun _ => fun
  | [d] => { results := [.lit (.bool false)], args := [d] }
  | _ => none }
def FnExactGoodFillWrongFalsely : Prop := fnExactGoodFillRow.holds Try.pinned (OpenSpec.ofChange fnExactGoodFillWrong)

/-- 'laws.FnExactNewRenew': WHATEVER THE INPUT: true; the input reads as it did. -/
def fnExactNewRenewSpec : ChangeSpec := { name := "fnExactNewRenew", fn := fun _ => fun
  | [d] => { results := [.lit (.bool true)], args := [d] }
  | _ => none }
def fnExactNewRenewRow : OpenClaim := { program := "ytnfjabkdlkejkaa", sum := "ac96b0344c3e9ca6478e0824f5c6b1b4a0a5fb805faae82601bfc1ac2c34df8b", func := "loop.example/g00850/laws.FnExactNewRenew", spec := "fnExactNewRenew", apart := false }
def FnExactNewRenewSaid : Prop := fnExactNewRenewRow.holds Try.pinned (OpenSpec.ofChange fnExactNewRenewSpec)

/-- ITS FALSE NEIGHBOUR: 'it returns false'. Refute it at one input. -/
def fnExactNewRenewWrong : ChangeSpec := { name := "fnExactNewRenew", fn := fun _ => fun
  | [d] => { results := [.lit (.bool false)], args := [d] }
  | _ => none }
def FnExactNewRenewWrongFalsely : Prop := fnExactNewRenewRow.holds Try.pinned (OpenSpec.ofChange fnExactNewRenewWrong)

/-- 'laws.FnExactGoodRenew': WHATEVER THE INPUT: true; the input reads as it did. -/
def fnExactGoodRenewSpec : ChangeSpec := { name := "fnExactGoodRenew", fn := fun _ => fun
  | [d] => { results := [.lit (.bool true)], args := [d] }
  | _ => none }
def fnExactGoodRenewRow : OpenClaim := { program := "ytnfjabkdlkejkaa", sum := "ac96b0344c3e9ca6478e0824f5c6b1b4a0a5fb805faae82601bfc1ac2c34df8b", func := "loop.example/g00850/laws.FnExactGoodRenew", spec := "fnExactGoodRenew", unfollowed := true, recurses := true, apart := false }
def FnExactGoodRenewSaid : Prop := fnExactGoodRenewRow.holds Try.pinned (OpenSpec.ofChange fnExactGoodRenewSpec)

/-- ITS FALSE NEIGHBOUR: 'it returns false'. Refute it at one input. -/
def fnExactGoodRenewWrong : ChangeSpec := { name := "fnExactGoodRenew", fn := fun _ => fun
  | [d] => { results := [.lit (.bool false)], args := [d] }
  | _ => none }
def FnExactGoodRenewWrongFalsely : Prop := fnExactGoodRenewRow.holds Try.pinned (OpenSpec.ofChange fnExactGoodRenewWrong)

/-- 'laws.FnExactSoundRenew': WHATEVER THE INPUT: true; the input reads as it did. -/
def fnExactSoundRenewSpec : ChangeSpec := { name := "fnExactSoundRenew", fn := fun _ => fun
  | [d] => { results := [.lit (.bool true)], args := [d] }
  | _ => none }
def fnExactSoundRenewRow : OpenClaim := { program := "ytnfjabkdlkejkaa", sum := "ac96b0344c3e9ca6478e0824f5c6b1b4a0a5fb805faae82601bfc1ac2c34df8b", func := "loop.example/g00850/laws.FnExactSoundRenew", spec := "fnExactSoundRenew", unfollowed := true, recurses := true, apart := false }
def FnExactSoundRenewSaid : Prop := fnExactSoundRenewRow.holds Try.pinned (OpenSpec.ofChange fnExactSoundRenewSpec)

/-- ITS FALSE NEIGHBOUR: 'it returns false'. Refute it at one input. -/
def fnExactSoundRenewWrong : ChangeSpec := { name := "fnExactSoundRenew", fn := fun _ => fun
  | [d] => { results := [.lit (.bool false)], args := [d] }
  | _ => none }
def FnExactSoundRenewWrongFalsely : Prop := fnExactSoundRenewRow.holds Try.pinned (OpenSpec.ofChange fnExactSoundRenewWrong)

/-- 'laws.FnExactUsableIn': WHATEVER THE INPUT: true; the input reads as it did. -/
def fnExactUsableInSpec : ChangeSpec := { name := "fnExactUsableIn", fn := fun _ => fun
  | [d1, d2] => { results := [.lit (.bool true)], args := [d1, d2] }
  | _ => none }
def fnExactUsableInRow : OpenClaim := { program := "ytnfjabkdlkejkaa", sum := "ac96b0344c3e9ca6478e0824f5c6b1b4a0a5fb805faae82601bfc1ac2c34df8b", func := "loop.example/g00850/laws.FnExactUsableIn", spec := "fnExactUsableIn", unfollowed := true, recurses := true, apart := false }
def FnExactUsableInSaid : Prop := fnExactUsableInRow.holds Try.pinned (OpenSpec.ofChange fnExactUsableInSpec)

/-- ITS FALSE NEIGHBOUR: 'it returns false'. Refute it at one input. -/
def fnExactUsableInWrong : ChangeSpec := { name := "fnExactUsableIn", fn := fun _ => fun
  | [d1, d2] => { results := [.lit (.bool false)], args := [d1, d2] }
  | _ => none }
def FnExactUsableInWrongFalsely : Prop := fnExactUsableInRow.holds Try.pinned (OpenSpec.ofChange fnExactUsableInWrong)

/-- 'laws.FnExactGoodRenewAct': WHATEVER THE INPUT: true; the input reads as it did. -/
def fnExactGoodRenewActSpec : ChangeSpec := { name := "fnExactGoodRenewAct", fn := fun _ => fun
  | [d1, d2] => { results := [.lit (.bool true)], args := [d1, d2] }
  | _ => none }
def fnExactGoodRenewActRow : OpenClaim := { program := "ytnfjabkdlkejkaa", sum := "ac96b0344c3e9ca6478e0824f5c6b1b4a0a5fb805faae82601bfc1ac2c34df8b", func := "loop.example/g00850/laws.FnExactGoodRenewAct", spec := "fnExactGoodRenewAct", unfollowed := true, recurses := true, apart := false }
def FnExactGoodRenewActSaid : Prop := fnExactGoodRenewActRow.holds Try.pinned (OpenSpec.ofChange fnExactGoodRenewActSpec)

/-- ITS FALSE NEIGHBOUR: 'it returns false'. Refute it at one input. -/
def fnExactGoodRenewActWrong : ChangeSpec := { name := "fnExactGoodRenewAct", fn := fun _ => fun
  | [d1, d2] => { results := [.lit (.bool false)], args := [d1, d2] }
  | _ => none }
def FnExactGoodRenewActWrongFalsely : Prop := fnExactGoodRenewActRow.holds Try.pinned (OpenSpec.ofChange fnExactGoodRenewActWrong)

/-- 'laws.FnExactAreNear': WHATEVER THE INPUT: true; the input reads as it did. -/
def fnExactAreNearSpec : ChangeSpec := { name := "fnExactAreNear", fn := fun _ => fun
  | [d] => { results := [.lit (.bool true)], args := [d] }
  | _ => none }
def fnExactAreNearRow : OpenClaim := { program := "ytnfjabkdlkejkaa", sum := "ac96b0344c3e9ca6478e0824f5c6b1b4a0a5fb805faae82601bfc1ac2c34df8b", func := "loop.example/g00850/laws.FnExactAreNear", spec := "fnExactAreNear", unfollowed := true, recurses := true, apart := false }
def FnExactAreNearSaid : Prop := fnExactAreNearRow.holds Try.pinned (OpenSpec.ofChange fnExactAreNearSpec)

/-- ITS FALSE NEIGHBOUR: 'it returns false'. Refute it at one input. -/
def fnExactAreNearWrong : ChangeSpec := { name := "fnExactAreNear", fn := fun _ => fun
  | [d] => { results := [.lit (.bool false)], args := [d] }
  | _ => none }
def FnExactAreNearWrongFalsely : Prop := fnExactAreNearRow.holds Try.pinned (OpenSpec.ofChange fnExactAreNearWrong)

/-- 'laws.FnExactGoodCopy': WHATEVER THE INPUT: true; the input reads as it did. -/
def fnExactGoodCopySpec : ChangeSpec := { name := "fnExactGoodCopy", fn := fun _ => fun
  | [d] => { results := [.lit (.bool true)], args := [d] }
  | _ => none }
def fnExactGoodCopyRow : OpenClaim := { program := "ytnfjabkdlkejkaa", sum := "ac96b0344c3e9ca6478e0824f5c6b1b4a0a5fb805faae82601bfc1ac2c34df8b", func := "loop.example/g00850/laws.FnExactGoodCopy", spec := "fnExactGoodCopy", inPlace := ["internal/bytealg.IndexByteString"], unfollowed := true, recurses := true, apart := false }
def FnExactGoodCopySaid : Prop := fnExactGoodCopyRow.holds Try.pinned (OpenSpec.ofChange fnExactGoodCopySpec)

/-- ITS FALSE NEIGHBOUR: 'it returns false'. Refute it at one input. -/
def fnExactGoodCopyWrong : ChangeSpec := { name := "fnExactGoodCopy", fn := fun _ => fun
  | [d] => { results := [.lit (.bool false)], args := [d] }
  | _ => none }
def FnExactGoodCopyWrongFalsely : Prop := fnExactGoodCopyRow.holds Try.pinned (OpenSpec.ofChange fnExactGoodCopyWrong)

/-- 'laws.FnExactGoodRow': WHATEVER THE INPUT: true; the input reads as it did. -/
def fnExactGoodRowSpec : ChangeSpec := { name := "fnExactGoodRow", fn := fun _ => fun
  | [d1, d2] => { results := [.lit (.bool true)], args := [d1, d2] }
  | _ => none }
def fnExactGoodRowRow : OpenClaim := { program := "ytnfjabkdlkejkaa", sum := "ac96b0344c3e9ca6478e0824f5c6b1b4a0a5fb805faae82601bfc1ac2c34df8b", func := "loop.example/g00850/laws.FnExactGoodRow", spec := "fnExactGoodRow", inPlace := ["internal/bytealg.IndexByteString"], unfollowed := true, recurses := true, apart := false }
def FnExactGoodRowSaid : Prop := fnExactGoodRowRow.holds Try.pinned (OpenSpec.ofChange fnExactGoodRowSpec)

/-- ITS FALSE NEIGHBOUR: 'it returns false'. Refute it at one input. -/
def fnExactGoodRowWrong : ChangeSpec := { name := "fnExactGoodRow", fn := fun _ => fun
  | [d1, d2] => { results := [.lit (.bool false)], args := [d1, d2] }
  | _ => none }
def FnExactGoodRowWrongFalsely : Prop := fnExactGoodRowRow.holds Try.pinned (OpenSpec.ofChange fnExactGoodRowWrong)

/- THE SECOND FORM. 'bulk': how many values and letters a reading holds, each counted each time it is reached (what is shared counts as often as it is met; a slice's spare places count too). A statement '..UptoSaid' is the law's where the arguments, and the package variables that the reading takes, are together of bulk at most 1048576: NARROWER than '..Said'. Prove '..Said' where nothing that the law and all that it calls make is longer than what came in: it says more and counts as full. Else prove '..UptoSaid'. A law counts once. -/
mutual
def uptoBulk {H : Type} : DataW H → Nat
  | .lit (.string bytes) => bytes.length + 1
  | .lit _ => 1
  | .nil => 1
  | .ptr d => uptoBulk d + 1
  | .slice elems spare => uptoBulkAll elems + uptoBulkAll spare + 1
  | .agg parts => uptoBulkAll parts + 1
  | .iface _ d => uptoBulk d + 1
  | .map entries => uptoBulkEntries entries + 1
  | .held _ => 1
def uptoBulkAll {H : Type} : List (DataW H) → Nat
  | [] => 0
  | d :: r => uptoBulk d + uptoBulkAll r
def uptoBulkEntries {H : Type} : List (Lit × DataW H) → Nat
  | [] => 0
  | x :: r => uptoBulkEntry x + uptoBulkEntries r
def uptoBulkEntry {H : Type} : Lit × DataW H → Nat
  | (.string bytes, d) => bytes.length + uptoBulk d + 1
  | (_, d) => uptoBulk d + 1
 end
def uptoSmall : (H : Type) → List (DataW H) → Bool := fun _ ds => decide (uptoBulkAll ds ≤ 1048576)
def OpenSpec.upto (s : _root_.Go.ChangeSpec) : _root_.Go.OpenSpec := { _root_.Go.OpenSpec.ofChange s with cond := some uptoSmall }

/-- 'laws.FnExactPowersAt', WHERE WHAT IT READS IS OF BULK AT MOST 1048576: true; the input reads as it did. -/
def fnExactPowersAtUptoRow : OpenClaim := { program := "ytnfjabkdlkejkaa", sum := "ac96b0344c3e9ca6478e0824f5c6b1b4a0a5fb805faae82601bfc1ac2c34df8b", func := "loop.example/g00850/laws.FnExactPowersAt", spec := "fnExactPowersAt", apart := false, narrowed := true }
def FnExactPowersAtUptoSaid : Prop := fnExactPowersAtUptoRow.holds Try.pinned (OpenSpec.upto fnExactPowersAtSpec)

/-- 'laws.FnExactGoodFill', WHERE WHAT IT READS IS OF BULK AT MOST 1048576: true; the input reads as it did. -/
def fnExactGoodFillUptoRow : OpenClaim := { program := "ytnfjabkdlkejkaa", sum := "ac96b0344c3e9ca6478e0824f5c6b1b4a0a5fb805faae82601bfc1ac2c34df8b", func := "loop.example/g00850/laws.FnExactGoodFill", spec := "fnExactGoodFill", inPlace := ["internal/bytealg.IndexByteString"], apart := false, narrowed := true }
def FnExactGoodFillUptoSaid : Prop := fnExactGoodFillUptoRow.holds Try.pinned (OpenSpec.upto fnExactGoodFillSpec)

/-- 'laws.FnExactNewRenew', WHERE WHAT IT READS IS OF BULK AT MOST 1048576: true; the input reads as it did. -/
def fnExactNewRenewUptoRow : OpenClaim := { program := "ytnfjabkdlkejkaa", sum := "ac96b0344c3e9ca6478e0824f5c6b1b4a0a5fb805faae82601bfc1ac2c34df8b", func := "loop.example/g00850/laws.FnExactNewRenew", spec := "fnExactNewRenew", apart := false, narrowed := true }
def FnExactNewRenewUptoSaid : Prop := fnExactNewRenewUptoRow.holds Try.pinned (OpenSpec.upto fnExactNewRenewSpec)

/-- 'laws.FnExactGoodRenew', WHERE WHAT IT READS IS OF BULK AT MOST 1048576: true; the input reads as it did. -/
def fnExactGoodRenewUptoRow : OpenClaim := { program := "ytnfjabkdlkejkaa", sum := "ac96b0344c3e9ca6478e0824f5c6b1b4a0a5fb805faae82601bfc1ac2c34df8b", func := "loop.example/g00850/laws.FnExactGoodRenew", spec := "fnExactGoodRenew", unfollowed := true, recurses := true, apart := false, narrowed := true }
def FnExactGoodRenewUptoSaid : Prop := fnExactGoodRenewUptoRow.holds Try.pinned (OpenSpec.upto fnExactGoodRenewSpec)

/-- 'laws.FnExactSoundRenew', WHERE WHAT IT READS IS OF BULK AT MOST 1048576: true; the input reads as it did. -/
def fnExactSoundRenewUptoRow : OpenClaim := { program := "ytnfjabkdlkejkaa", sum := "ac96b0344c3e9ca6478e0824f5c6b1b4a0a5fb805faae82601bfc1ac2c34df8b", func := "loop.example/g00850/laws.FnExactSoundRenew", spec := "fnExactSoundRenew", unfollowed := true, recurses := true, apart := false, narrowed := true }
def FnExactSoundRenewUptoSaid : Prop := fnExactSoundRenewUptoRow.holds Try.pinned (OpenSpec.upto fnExactSoundRenewSpec)

/-- 'laws.FnExactUsableIn', WHERE WHAT IT READS IS OF BULK AT MOST 1048576: true; the input reads as it did. -/
def fnExactUsableInUptoRow : OpenClaim := { program := "ytnfjabkdlkejkaa", sum := "ac96b0344c3e9ca6478e0824f5c6b1b4a0a5fb805faae82601bfc1ac2c34df8b", func := "loop.example/g00850/laws.FnExactUsableIn", spec := "fnExactUsableIn", unfollowed := true, recurses := true, apart := false, narrowed := true }
def FnExactUsableInUptoSaid : Prop := fnExactUsableInUptoRow.holds Try.pinned (OpenSpec.upto fnExactUsableInSpec)

/-- 'laws.FnExactGoodRenewAct', WHERE WHAT IT READS IS OF BULK AT MOST 1048576: true; the input reads as it did. -/
def fnExactGoodRenewActUptoRow : OpenClaim := { program := "ytnfjabkdlkejkaa", sum := "ac96b0344c3e9ca6478e0824f5c6b1b4a0a5fb805faae82601bfc1ac2c34df8b", func := "loop.example/g00850/laws.FnExactGoodRenewAct", spec := "fnExactGoodRenewAct", unfollowed := true, recurses := true, apart := false, narrowed := true }
def FnExactGoodRenewActUptoSaid : Prop := fnExactGoodRenewActUptoRow.holds Try.pinned (OpenSpec.upto fnExactGoodRenewActSpec)

/-- 'laws.FnExactAreNear', WHERE WHAT IT READS IS OF BULK AT MOST 1048576: true; the input reads as it did. -/
def fnExactAreNearUptoRow : OpenClaim := { program := "ytnfjabkdlkejkaa", sum := "ac96b0344c3e9ca6478e0824f5c6b1b4a0a5fb805faae82601bfc1ac2c34df8b", func := "loop.example/g00850/laws.FnExactAreNear", spec := "fnExactAreNear", unfollowed := true, recurses := true, apart := false, narrowed := true }
def FnExactAreNearUptoSaid : Prop := fnExactAreNearUptoRow.holds Try.pinned (OpenSpec.upto fnExactAreNearSpec)

/-- 'laws.FnExactGoodCopy', WHERE WHAT IT READS IS OF BULK AT MOST 1048576: true; the input reads as it did. -/
def fnExactGoodCopyUptoRow : OpenClaim := { program := "ytnfjabkdlkejkaa", sum := "ac96b0344c3e9ca6478e0824f5c6b1b4a0a5fb805faae82601bfc1ac2c34df8b", func := "loop.example/g00850/laws.FnExactGoodCopy", spec := "fnExactGoodCopy", inPlace := ["internal/bytealg.IndexByteString"], unfollowed := true, recurses := true, apart := false, narrowed := true }
def FnExactGoodCopyUptoSaid : Prop := fnExactGoodCopyUptoRow.holds Try.pinned (OpenSpec.upto fnExactGoodCopySpec)

/-- 'laws.FnExactGoodRow', WHERE WHAT IT READS IS OF BULK AT MOST 1048576: true; the input reads as it did. -/
def fnExactGoodRowUptoRow : OpenClaim := { program := "ytnfjabkdlkejkaa", sum := "ac96b0344c3e9ca6478e0824f5c6b1b4a0a5fb805faae82601bfc1ac2c34df8b", func := "loop.example/g00850/laws.FnExactGoodRow", spec := "fnExactGoodRow", inPlace := ["internal/bytealg.IndexByteString"], unfollowed := true, recurses := true, apart := false, narrowed := true }
def FnExactGoodRowUptoSaid : Prop := fnExactGoodRowUptoRow.holds Try.pinned (OpenSpec.upto fnExactGoodRowSpec)

end Rows
end Go.Proofs.Ytnfjabkdlkejkaa
