/-
  DERIVED. GIVEN WITH THE SEED: THE CARDS: each row of YtfhpejjhhhgooaaGreatDoorRows.lean that lists a variable, with what it lists TIED to the program's text (the seventh form; the later family's looks); each row that meets fmt, with fmt's text TOLD by the authors' own Lean function (tested against real Go, not proved from fmt's source: count such statements apart). THE CARD IS WHAT COUNTS. Prove the row's statement (the work); the ties are given (YtfhpejjhhhgooaaGreatDoorTie.lean); close each card by the builder's one call (the guide's Derived/Test/ToyasCard.lean, 'card_holds'). Laid BY PROGRAM, IN A SANDBOX (cutbox-door.mjs). By AI agents, Wed Nov 11 2026. No macro, syntax, notation, axiom, sorry.
-/
import Derived.Test.YtfhpejjhhhgooaaGreatDoorRows
import GoSem.ClaimSeven
namespace Go.Proofs.YtfhpejjhhhgooaaGreatDoor
namespace Rows

/-- THE TIED CARD OF 'laws.FnExactLacksIn'. -/
def fnExactLacksInCard : Claim7 := { stood := { row := fnExactLacksInRow, standIns := [], harness := (true, "0407b36fae3dd76ddb358dd3d0ff0ba771f2bb093a16f9585f711424ffced94f"), looks := false }, kinds := [], alts := [], laidByText := true, laidKinds := [.data, .pinned], laidTests := true, laidLooks := .later }
def FnExactLacksInCardSaid : Prop := Claim7.holds Tryz.pinned (.plain (OpenSpec.ofChange fnExactLacksInSpec)) fnExactLacksInCard

/-- THE TIED CARD OF 'laws.FnExactOrphansIn'. -/
def fnExactOrphansInCard : Claim7 := { stood := { row := fnExactOrphansInRow, standIns := [], harness := (true, "0407b36fae3dd76ddb358dd3d0ff0ba771f2bb093a16f9585f711424ffced94f"), looks := false }, kinds := [], alts := [], laidByText := true, laidKinds := [.data, .pinned], laidTests := true, laidLooks := .later }
def FnExactOrphansInCardSaid : Prop := Claim7.holds Tryz.pinned (.plain (OpenSpec.ofChange fnExactOrphansInSpec)) fnExactOrphansInCard

/-- THE SECOND FORM's CARD OF 'laws.FnExactLacksIn'. -/
def fnExactLacksInUptoCard : Claim7 := { stood := { row := fnExactLacksInUptoRow, standIns := [], harness := (true, "0407b36fae3dd76ddb358dd3d0ff0ba771f2bb093a16f9585f711424ffced94f"), looks := false }, kinds := [], alts := [], laidByText := true, laidKinds := [.data, .pinned], laidTests := true, laidLooks := .later }
def FnExactLacksInUptoCardSaid : Prop := Claim7.holds Tryz.pinned (.plain (OpenSpec.upto fnExactLacksInSpec)) fnExactLacksInUptoCard

/-- THE SECOND FORM's CARD OF 'laws.FnExactOrphansIn'. -/
def fnExactOrphansInUptoCard : Claim7 := { stood := { row := fnExactOrphansInUptoRow, standIns := [], harness := (true, "0407b36fae3dd76ddb358dd3d0ff0ba771f2bb093a16f9585f711424ffced94f"), looks := false }, kinds := [], alts := [], laidByText := true, laidKinds := [.data, .pinned], laidTests := true, laidLooks := .later }
def FnExactOrphansInUptoCardSaid : Prop := Claim7.holds Tryz.pinned (.plain (OpenSpec.upto fnExactOrphansInSpec)) fnExactOrphansInUptoCard
end Rows
end Go.Proofs.YtfhpejjhhhgooaaGreatDoor
