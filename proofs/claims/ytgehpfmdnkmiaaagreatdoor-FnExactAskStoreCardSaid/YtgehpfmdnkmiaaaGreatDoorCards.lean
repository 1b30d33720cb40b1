/-
  DERIVED. GIVEN WITH THE SEED: THE CARDS: each row of YtgehpfmdnkmiaaaGreatDoorRows.lean that lists a variable, with what it lists TIED to the program's text (the seventh form; the later family's looks); each row that meets fmt, with fmt's text TOLD by the authors' own Lean function (tested against real Go, not proved from fmt's source: count such statements apart). THE CARD IS WHAT COUNTS. Prove the row's statement (the work); the ties are given (YtgehpfmdnkmiaaaGreatDoorTie.lean); close each card by the builder's one call (the guide's Derived/Test/ToyasCard.lean, 'card_holds'). Laid BY PROGRAM, IN A SANDBOX (cutbox-door.mjs). By AI agents, Wed Nov 11 2026. No macro, syntax, notation, axiom, sorry.
-/
import Derived.Test.YtgehpfmdnkmiaaaGreatDoorRows
import GoSem.ClaimSeven
namespace Go.Proofs.YtgehpfmdnkmiaaaGreatDoor
namespace Rows

/-- THE TIED CARD OF 'laws.FnExactAskStore'. -/
def fnExactAskStoreCard : Claim7 := { stood := { row := fnExactAskStoreRow, standIns := [], harness := (true, "fc8e8d3d375759c2136ced9d9fa029ef6573ff9ab884bc4a3db4fe6ec71bfb58"), looks := false }, kinds := [], alts := [], laidByText := true, laidKinds := [.data, .pinned], laidTests := true, laidLooks := .later }
def FnExactAskStoreCardSaid : Prop := Claim7.holds Tryz.pinned (.plain (OpenSpec.ofChange fnExactAskStoreSpec)) fnExactAskStoreCard

/-- THE SECOND FORM's CARD OF 'laws.FnExactAskStore'. -/
def fnExactAskStoreUptoCard : Claim7 := { stood := { row := fnExactAskStoreUptoRow, standIns := [], harness := (true, "fc8e8d3d375759c2136ced9d9fa029ef6573ff9ab884bc4a3db4fe6ec71bfb58"), looks := false }, kinds := [], alts := [], laidByText := true, laidKinds := [.data, .pinned], laidTests := true, laidLooks := .later }
def FnExactAskStoreUptoCardSaid : Prop := Claim7.holds Tryz.pinned (.plain (OpenSpec.upto fnExactAskStoreSpec)) fnExactAskStoreUptoCard
end Rows
end Go.Proofs.YtgehpfmdnkmiaaaGreatDoor
