/-
  DERIVED. GIVEN WITH THE SEED: THE CARDS: each row of YtdknedcbonflgaaDoorRows.lean that lists a variable, with what it lists TIED to the program's text (the seventh form; the later family's looks); each row that meets fmt, with fmt's text TOLD by the authors' own Lean function (tested against real Go, not proved from fmt's source: count such statements apart). THE CARD IS WHAT COUNTS. Prove the row's statement (the work); the ties are given (YtdknedcbonflgaaDoorTie.lean); close each card by the builder's one call (the guide's Derived/Test/ToyasCard.lean, 'card_holds'). Laid BY PROGRAM, IN A SANDBOX (cutbox-door.mjs). By AI agents, Wed Nov 11 2026. No macro, syntax, notation, axiom, sorry.
-/
import Derived.Test.YtdknedcbonflgaaDoorRows
import GoSem.ClaimSeven
namespace Go.Proofs.YtdknedcbonflgaaDoor
namespace Rows

/-- THE TIED CARD OF 'laws.FnExactReadTable'. -/
def fnExactReadTableCard : Claim7 := { stood := { row := fnExactReadTableRow, standIns := [], harness := (true, "02e9b5cc8f1331a01f8ccbc4a6242ccd45a7f902086857bfe017c1b8879473d6"), looks := true }, kinds := [], alts := [], laidByText := true, laidKinds := [.data, .data, .data, .data, .sentinel, .sentinel, .pinned], laidTests := true, laidLooks := .later }
def FnExactReadTableCardSaid : Prop := Claim7.holds Tryd.pinned (.plain (OpenSpec.ofChange fnExactReadTableSpec)) fnExactReadTableCard

/-- THE SECOND FORM's CARD OF 'laws.FnExactReadTable'. -/
def fnExactReadTableUptoCard : Claim7 := { stood := { row := fnExactReadTableUptoRow, standIns := [], harness := (true, "02e9b5cc8f1331a01f8ccbc4a6242ccd45a7f902086857bfe017c1b8879473d6"), looks := true }, kinds := [], alts := [], laidByText := true, laidKinds := [.data, .data, .data, .data, .sentinel, .sentinel, .pinned], laidTests := true, laidLooks := .later }
def FnExactReadTableUptoCardSaid : Prop := Claim7.holds Tryd.pinned (.plain (OpenSpec.upto fnExactReadTableSpec)) fnExactReadTableUptoCard
end Rows
end Go.Proofs.YtdknedcbonflgaaDoor
