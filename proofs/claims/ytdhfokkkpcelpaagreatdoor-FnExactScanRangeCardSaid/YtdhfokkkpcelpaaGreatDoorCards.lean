/-
  DERIVED. GIVEN WITH THE SEED: THE CARDS: each row of YtdhfokkkpcelpaaGreatDoorRows.lean that lists a variable, with what it lists TIED to the program's text (the seventh form; the later family's looks); each row that meets fmt, with fmt's text TOLD by the authors' own Lean function (tested against real Go, not proved from fmt's source: count such statements apart). THE CARD IS WHAT COUNTS. Prove the row's statement (the work); the ties are given (YtdhfokkkpcelpaaGreatDoorTie.lean); close each card by the builder's one call (the guide's Derived/Test/ToyasCard.lean, 'card_holds'). Laid BY PROGRAM, IN A SANDBOX (cutbox-door.mjs). By AI agents, Wed Nov 11 2026. No macro, syntax, notation, axiom, sorry.
-/
import Derived.Test.YtdhfokkkpcelpaaGreatDoorRows
import GoSem.ClaimSeven
namespace Go.Proofs.YtdhfokkkpcelpaaGreatDoor
namespace Rows

/-- THE TIED CARD OF 'laws.FnExactScanRange'. -/
def fnExactScanRangeCard : Claim7 := { stood := { row := fnExactScanRangeRow, standIns := [], harness := (true, "3aa597528af5896c4e3f3790a5fdfcef0d4f85f917c8093c8d993ee394bbc820"), looks := false }, kinds := [], alts := [], laidByText := true, laidKinds := [.data, .pinned], laidTests := true, laidLooks := .later }
def FnExactScanRangeCardSaid : Prop := Claim7.holds Tryz.pinned (.plain (OpenSpec.ofChange fnExactScanRangeSpec)) fnExactScanRangeCard

/-- THE SECOND FORM's CARD OF 'laws.FnExactScanRange'. -/
def fnExactScanRangeUptoCard : Claim7 := { stood := { row := fnExactScanRangeUptoRow, standIns := [], harness := (true, "3aa597528af5896c4e3f3790a5fdfcef0d4f85f917c8093c8d993ee394bbc820"), looks := false }, kinds := [], alts := [], laidByText := true, laidKinds := [.data, .pinned], laidTests := true, laidLooks := .later }
def FnExactScanRangeUptoCardSaid : Prop := Claim7.holds Tryz.pinned (.plain (OpenSpec.upto fnExactScanRangeSpec)) fnExactScanRangeUptoCard
end Rows
end Go.Proofs.YtdhfokkkpcelpaaGreatDoor
