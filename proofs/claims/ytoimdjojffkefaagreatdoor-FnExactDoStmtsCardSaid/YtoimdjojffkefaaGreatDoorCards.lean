/-
  DERIVED. GIVEN WITH THE SEED: THE CARDS: each row of YtoimdjojffkefaaGreatDoorRows.lean that lists a variable, with what it lists TIED to the program's text (the seventh form; the later family's looks); each row that meets fmt, with fmt's text TOLD by the authors' own Lean function (tested against real Go, not proved from fmt's source: count such statements apart). THE CARD IS WHAT COUNTS. Prove the row's statement (the work); the ties are given (YtoimdjojffkefaaGreatDoorTie.lean); close each card by the builder's one call (the guide's Derived/Test/ToyasCard.lean, 'card_holds'). Laid BY PROGRAM, IN A SANDBOX (cutbox-door.mjs). By AI agents, Wed Nov 11 2026. No macro, syntax, notation, axiom, sorry.
-/
import Derived.Test.YtoimdjojffkefaaGreatDoorRows
import GoSem.ClaimSeven
namespace Go.Proofs.YtoimdjojffkefaaGreatDoor
namespace Rows

/-- THE TIED CARD OF 'laws.FnExactDoAct'. -/
def fnExactDoActCard : Claim7 := { stood := { row := fnExactDoActRow, standIns := [], harness := (true, "ac72a9922c5f676a7c423145ff510074b9337365fd37c8e20d65a4608882ec46"), looks := true }, kinds := [], alts := [], laidByText := true, laidKinds := [.data, .data, .data, .sentinel, .sentinel], laidTests := true, laidLooks := .later }
def FnExactDoActCardSaid : Prop := Claim7.holds Tryz.pinned (.plain (OpenSpec.ofChange fnExactDoActSpec)) fnExactDoActCard

/-- THE TIED CARD OF 'laws.FnExactClearPiece'. -/
def fnExactClearPieceCard : Claim7 := { stood := { row := fnExactClearPieceRow, standIns := [], harness := (true, "ac72a9922c5f676a7c423145ff510074b9337365fd37c8e20d65a4608882ec46"), looks := true }, kinds := [], alts := [], laidByText := true, laidKinds := [.data, .data, .data, .sentinel, .sentinel], laidTests := true, laidLooks := .later }
def FnExactClearPieceCardSaid : Prop := Claim7.holds Tryz.pinned (.plain (OpenSpec.ofChange fnExactClearPieceSpec)) fnExactClearPieceCard

/-- THE TIED CARD OF 'laws.FnExactFillPiece'. -/
def fnExactFillPieceCard : Claim7 := { stood := { row := fnExactFillPieceRow, standIns := [], harness := (true, "ac72a9922c5f676a7c423145ff510074b9337365fd37c8e20d65a4608882ec46"), looks := true }, kinds := [], alts := [], laidByText := true, laidKinds := [.data, .data, .data, .data, .sentinel, .sentinel, .pinned], laidTests := true, laidLooks := .later }
def FnExactFillPieceCardSaid : Prop := Claim7.holds Tryz.pinned (.plain (OpenSpec.ofChange fnExactFillPieceSpec)) fnExactFillPieceCard

/-- THE TIED CARD OF 'laws.FnExactDoStmts'. -/
def fnExactDoStmtsCard : Claim7 := { stood := { row := fnExactDoStmtsRow, standIns := [], harness := (true, "ac72a9922c5f676a7c423145ff510074b9337365fd37c8e20d65a4608882ec46"), looks := true }, kinds := [], alts := [], laidByText := true, laidKinds := [.data, .data, .data, .data, .sentinel, .sentinel, .pinned], laidTests := true, laidLooks := .later }
def FnExactDoStmtsCardSaid : Prop := Claim7.holds Tryz.pinned (.plain (OpenSpec.ofChange fnExactDoStmtsSpec)) fnExactDoStmtsCard

/-- THE SECOND FORM's CARD OF 'laws.FnExactDoAct'. -/
def fnExactDoActUptoCard : Claim7 := { stood := { row := fnExactDoActUptoRow, standIns := [], harness := (true, "ac72a9922c5f676a7c423145ff510074b9337365fd37c8e20d65a4608882ec46"), looks := true }, kinds := [], alts := [], laidByText := true, laidKinds := [.data, .data, .data, .sentinel, .sentinel], laidTests := true, laidLooks := .later }
def FnExactDoActUptoCardSaid : Prop := Claim7.holds Tryz.pinned (.plain (OpenSpec.upto fnExactDoActSpec)) fnExactDoActUptoCard

/-- THE SECOND FORM's CARD OF 'laws.FnExactClearPiece'. -/
def fnExactClearPieceUptoCard : Claim7 := { stood := { row := fnExactClearPieceUptoRow, standIns := [], harness := (true, "ac72a9922c5f676a7c423145ff510074b9337365fd37c8e20d65a4608882ec46"), looks := true }, kinds := [], alts := [], laidByText := true, laidKinds := [.data, .data, .data, .sentinel, .sentinel], laidTests := true, laidLooks := .later }
def FnExactClearPieceUptoCardSaid : Prop := Claim7.holds Tryz.pinned (.plain (OpenSpec.upto fnExactClearPieceSpec)) fnExactClearPieceUptoCard

/-- THE SECOND FORM's CARD OF 'laws.FnExactFillPiece'. -/
def fnExactFillPieceUptoCard : Claim7 := { stood := { row := fnExactFillPieceUptoRow, standIns := [], harness := (true, "ac72a9922c5f676a7c423145ff510074b9337365fd37c8e20d65a4608882ec46"), looks := true }, kinds := [], alts := [], laidByText := true, laidKinds := [.data, .data, .data, .data, .sentinel, .sentinel, .pinned], laidTests := true, laidLooks := .later }
def FnExactFillPieceUptoCardSaid : Prop := Claim7.holds Tryz.pinned (.plain (OpenSpec.upto fnExactFillPieceSpec)) fnExactFillPieceUptoCard

/-- THE SECOND FORM's CARD OF 'laws.FnExactDoStmts'. -/
def fnExactDoStmtsUptoCard : Claim7 := { stood := { row := fnExactDoStmtsUptoRow, standIns := [], harness := (true, "ac72a9922c5f676a7c423145ff510074b9337365fd37c8e20d65a4608882ec46"), looks := true }, kinds := [], alts := [], laidByText := true, laidKinds := [.data, .data, .data, .data, .sentinel, .sentinel, .pinned], laidTests := true, laidLooks := .later }
def FnExactDoStmtsUptoCardSaid : Prop := Claim7.holds Tryz.pinned (.plain (OpenSpec.upto fnExactDoStmtsSpec)) fnExactDoStmtsUptoCard
end Rows
end Go.Proofs.YtoimdjojffkefaaGreatDoor
