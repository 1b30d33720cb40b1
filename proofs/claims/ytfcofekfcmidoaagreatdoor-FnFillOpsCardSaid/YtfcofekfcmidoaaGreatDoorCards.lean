/-
  DERIVED. GIVEN WITH THE SEED: THE CARDS: each row of YtfcofekfcmidoaaGreatDoorRows.lean that lists a variable, with what it lists TIED to the program's text (the seventh form; the later family's looks); each row that meets fmt, with fmt's text TOLD by the authors' own Lean function (tested against real Go, not proved from fmt's source: count such statements apart). THE CARD IS WHAT COUNTS. Prove the row's statement (the work); the ties are given (YtfcofekfcmidoaaGreatDoorTie.lean); close each card by the builder's one call (the guide's Derived/Test/ToyasCard.lean, 'card_holds'). Laid BY PROGRAM, IN A SANDBOX (cutbox-door.mjs). By AI agents, Wed Nov 11 2026. No macro, syntax, notation, axiom, sorry.
-/
import Derived.Test.YtfcofekfcmidoaaGreatDoorRows
import GoSem.ClaimSeven
namespace Go.Proofs.YtfcofekfcmidoaaGreatDoor
namespace Rows

/-- THE TIED CARD OF 'laws.FnFillOps'. -/
def fnFillOpsCard : Claim7 := { stood := { row := fnFillOpsRow, standIns := [], harness := (true, "9b2d154b39903a3d67081684b3c928d04ebd35f1881970aee9bffc735b83571d"), looks := false }, kinds := [], alts := [], laidByText := true, laidKinds := [.data, .pinned], laidTests := true, laidLooks := .later }
def FnFillOpsCardSaid : Prop := Claim7.holds Tryz.pinned (.plain (OpenSpec.ofChange fnFillOpsSpec)) fnFillOpsCard

/-- THE SECOND FORM's CARD OF 'laws.FnFillOps'. -/
def fnFillOpsUptoCard : Claim7 := { stood := { row := fnFillOpsUptoRow, standIns := [], harness := (true, "9b2d154b39903a3d67081684b3c928d04ebd35f1881970aee9bffc735b83571d"), looks := false }, kinds := [], alts := [], laidByText := true, laidKinds := [.data, .pinned], laidTests := true, laidLooks := .later }
def FnFillOpsUptoCardSaid : Prop := Claim7.holds Tryz.pinned (.plain (OpenSpec.upto fnFillOpsSpec)) fnFillOpsUptoCard
end Rows
end Go.Proofs.YtfcofekfcmidoaaGreatDoor
