/-
  DERIVED. GIVEN WITH THE SEED: THE CARDS: each row of YtficefnmkcejlaaDoorRows.lean that lists a variable, with what it lists TIED to the program's text (the seventh form; the later family's looks); each row that meets fmt, with fmt's text TOLD by the authors' own Lean function (tested against real Go, not proved from fmt's source: count such statements apart). THE CARD IS WHAT COUNTS. Prove the row's statement (the work); the ties are given (YtficefnmkcejlaaDoorTie.lean); close each card by the builder's one call (the guide's Derived/Test/ToyasCard.lean, 'card_holds'). Laid BY PROGRAM, IN A SANDBOX (cutbox-door.mjs). By AI agents, Wed Nov 11 2026. No macro, syntax, notation, axiom, sorry.
-/
import Derived.Test.YtficefnmkcejlaaDoorRows
import GoSem.ClaimSeven
namespace Go.Proofs.YtficefnmkcejlaaDoor
namespace Rows

/-- THE TIED CARD OF 'laws.FnExactTableText'. -/
def fnExactTableTextCard : Claim7 := { stood := { row := fnExactTableTextRow, standIns := [], harness := (true, "cc02d41580335fcd315ce74e454bc3f53da5dde848b4d4f22bcb285a6551b6cc"), looks := false }, kinds := [], alts := [], laidByText := true, laidKinds := [.data, .data, .data], laidTests := true, laidLooks := .later }
def FnExactTableTextCardSaid : Prop := Claim7.holds Tryd.pinned (.plain (OpenSpec.ofChange fnExactTableTextSpec)) fnExactTableTextCard

/-- THE SECOND FORM's CARD OF 'laws.FnExactTableText'. -/
def fnExactTableTextUptoCard : Claim7 := { stood := { row := fnExactTableTextUptoRow, standIns := [], harness := (true, "cc02d41580335fcd315ce74e454bc3f53da5dde848b4d4f22bcb285a6551b6cc"), looks := false }, kinds := [], alts := [], laidByText := true, laidKinds := [.data, .data, .data], laidTests := true, laidLooks := .later }
def FnExactTableTextUptoCardSaid : Prop := Claim7.holds Tryd.pinned (.plain (OpenSpec.upto fnExactTableTextSpec)) fnExactTableTextUptoCard
end Rows
end Go.Proofs.YtficefnmkcejlaaDoor
